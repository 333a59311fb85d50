import Derived.Test.YtfajmfoofmienaaGreatDoorProg
import Derived.KernelRfl
import Derived.Lib.Mul64
import Derived.Lib.TrailingZeros
import Derived.Test.YtfajmfoofmienaaGreatDoorDuaA
open BitVec renaming ofInt→CO,ofNat→Cq
open Bool renaming and_eq_true→AT,and_self→A4,not_eq_true'→BU,not_false→BJ,not_true→Ed,or_true→DB
open Classical renaming byContradiction→An
open Go.IntKind renaming bits→By,signed→Cp,wrap→Ao
open Go.Lib renaming ctz→Hb,deBruijn64tab→FR,half_mul_le→Gd
open Go.Value renaming bool→kz,int→jy,pointer→kS,slice→jx,string→kF,tuple→FM
open Iff renaming rfl→Db
open Int renaming fdiv_eq_ediv_of_nonneg→DU,le_of_lt→Ha,lt_trichotomy→Et,natAbs_natCast→sa,ofNat_lt→Eu,pow_pos→HB,toNat_natCast→AP
open List renaming all_cons→EP,all_eq_true→Bt,any_eq_true→EI,append_assoc→Aq,append_nil→A3,cons_append→EH,drop_eq_getElem_cons→Cb,drop_length→Ct,drop_set_of_lt→D8,drop_zero→AQ,eq_of_mem_replicate→De,getElem?_drop→B3,getElem?_eq_getElem→k4,getElem?_eq_none→Ad,getElem?_eq_some_iff→oc,getElem?_map→sr,length→gP,length_append→nn,length_cons→Au,length_eq_zero_iff→xd,length_map→oo,length_set→AY,length_singleton→xl,length_take→Af,map_set→FZ,mem_append→Al,mem_of_getElem?→ns,mem_or_eq_of_mem_set→Bd,nil_append→AN,not_mem_nil→nN,range→AC,replicate→pl,replicate_succ→Cr,replicate_zero→CI,set_eq_take_append_cons_drop→En,take_length→Ax,take_of_length_le→Aa,take_take→DP,take_zero→Bj
open Nat renaming Coprime→C5,add_mul→AH,add_mul_mod_self_left→D6,add_sub_cancel→Cv,add_zero→BC,beq→AG,beq_refl→B9,ble→Ai,ble_eq_true_of_le→sn,blt→Er,div_add_mod→Bw,div_eq_of_lt→Cu,div_le_self→Bk,div_lt_iff_lt_mul→BM,div_mul_le_self→Gy,dvd_of_mod_eq_zero→F3,eq_of_beq_eq_true→Aw,eq_of_mul_eq_mul_left→CU,gcd→sN,gcd_comm→B8,gcd_sub_self_right→F2,gcd_zero_right→Ej,le_div_iff_mul_le→EA,le_of_ble_eq_true→Am,le_refl→AK,le_succ→ux,le_total→G0,le_trans→Ap,lt_of_le_of_lt→Ae,lt_of_lt_of_le→tv,lt_or_gt_of_ne→Ei,lt_trichotomy→C7,max_eq_left→HJ,max_eq_right→Hk,min→Fs,min_eq_left→Be,min_eq_right→FW,mod_eq_of_lt→Ag,mod_lt→Bo,mul_add→A1,mul_assoc→Az,mul_comm→vT,mul_div_cancel_left→BY,mul_le_mul→AD,mul_le_mul_left→A9,mul_le_mul_right→Ab,mul_left_comm→BP,mul_mod_mul_left→ET,mul_mod_right→Eo,mul_one→AO,one_mul→Bs,or_eq_zero_iff→GM,or_mod_two_pow→GJ,pow_add→Bq,pow_le_pow_left→D7,pow_le_pow_right→Ac,pow_mul→Ek,pow_pos→Bz,pow_succ→Ar,pow_zero→CL,sub_self→A7,sub_zero→C8,zero_add→AA,zero_mul→BE
open Nat.Coprime renaming gcd_mul_left_cancel_right→DZ
open Option renaming getD_none→Hl,getD_some→Hm,isNone_none→B4,isSome_iff_exists→AB,map_eq_some_iff→Dz
open Option.some renaming inj→A0,injEq→C6
open Prod.mk renaming injEq→BL
open Rat renaming add_nonneg→Ew,add_zero→A2,div_def→Bv,mul_eq_zero→Fg,mul_nonneg→FG,mul_zero→Br,zero_mul→Cg
open UInt8 renaming ofNat→Bh
set_option maxHeartbeats 8000000
set_option linter.unusedVariables false
set_option linter.unusedSimpArgs false
namespace Go.GL
open Go
variable {ops r:List Oper}{n m i bytes size cap len off n0 nt id bt n' sz b j L d l:Nat}{w ms W:List Nat}{o:Oper}{al ld:List (Nat×Nat)}{v z:Value}{ty e ty' xT t:TypeId}{args new vs cs c:List Value}{E:Env}{ik' ik:IntKind}{pos:String}{α β:Type}{hi x y:Operand}{af:Array Edge}{f:FuncId}{a:Option Addr}{g:Option (Nat×Bool)}
variable {sT:TypeId}
abbrev TF:=Nat→Value
inductive BF where
 |row (c:List Value) (e:TypeId)
 |ro (c:List Value)
 |loop (ready:Bool) (pending:Option Code) (t:TF) (nt:Nat) (ps:List Tmp) (assign body:Code) (d:Nat)
 |dfr
abbrev HF:=Nat→Option BF
def BF.cells:BF→Option (List Value)
 | .row c _=>some c
 | .ro c=>some c
 |_=>none
noncomputable def Blk.view:Blk→BF
 | .row c e=>.row c e
 | .ro c=>.ro c
 | .loop r p t nt ps a b d=>.loop r p (nth t) nt ps a b d
 | .dfr=>.dfr
noncomputable def hv (h:Hp):HF:=fun b=>(h.at b).map Blk.view
def upd {α:Type}(f:Nat→α)(i:Nat)(v:α):Nat→α:=fun j=>if j=i then v else f j
theorem zh (f:Nat→α)(i:Nat)(v:α):upd f i v i=v:=by simp [upd]
theorem zj {f:Nat→α}{v:α}(h:j≠i):upd f i v j=f j:=by simp [upd,h]
theorem xq (f:Nat→α)(i:Nat)(v w:α):upd (upd f i v) i w=upd f i w:=by
 funext j;simp only [upd];split<;>rfl
theorem upd_self {f:Nat→α}{v:α}(h:f i=v):upd f i v=f:=by
 funext j;simp only [upd];split
 ·rename_i e;rw [e,h]
 rfl
theorem eh (t:Tr Value)(i:Nat)(v:Value):nth (Tr.put t i v)=upd (nth t) i v:=by
 funext j;exact Tr.get_put undef rfl t i v j
theorem tD (h:Hp)(b:Nat)(x:Option Blk):hv (Tr.put h b x)=upd (hv h) b (x.map Blk.view):=by
 funext c;unfold hv upd;rw [show Hp.at (Tr.put h b x) c=if c=b then x else h.at c from Tr.get_put none rfl h b x c];split<;>rfl
theorem zne {h:Hp}{x:Blk}(e:h.at b=some x):hv h b=some x.view:=by simp [hv,e]
theorem ta {h:Hp}{y:BF}(e:hv h b=some y):∃x,h.at b=some x∧x.view=y:=by
 unfold hv at e;simpa using e
theorem za5 (x:Blk):x.view.cells=x.cells:=by cases x<;>rfl
theorem zhm {x:Blk}(h:x.view=.row c e):x=.row c e:=by
 cases x<;>simp [Blk.view] at h;obtain ⟨rfl,rfl⟩:=h;rfl
def evF (τ:TF):Operand→Value
 | .tmp i=>τ i
 | .const v=>(match closed v with|true=>v|false=>undef)
 | .global g=>kS (some ⟨3*g,0,none⟩)
 | .func f=>.func (.func f) #[] #[]
theorem eW (t:Tr Value):ev t=evF (nth t):=by funext x;cases x<;>rfl
def uy (h:HF)(a:Addr)(n:Nat):Option (List Value):=
 match h a.block with
 |some x=>(match x.cells with|some c=>(match Ai (a.off+n) (gP c)&&a.spot.isNone with|true=>some ((c.drop a.off).take n)|false=>none)|none=>none)
 |none=>none
theorem bX (h:Hp)(a:Addr)(n:Nat):lZ h a n=uy (hv h) a n:=by
 unfold lZ uy;cases e:h.at a.block with
 |none=>simp [hv,e]
 |some x=>rw [zne e];simp only [za5];rfl
def vl (h:HF)(a:Addr)(vs:List Value):Option HF:=
 match h a.block with
 |some (.row c e)=>(match Ai (a.off+gP vs) (gP c)&&(a.spot.isNone&&ones vs) with|true=>some (upd h a.block (some (.row (zw c a.off vs) e)))|false=>none)
 |_=>none
theorem nF {h:Hp}{a:Addr}{g:HF}(d:vl (hv h) a vs=some g):∃h',pH h a vs=some h'∧hv h'=g:=by
 unfold vl at d;split at d
 ·rename_i c e hb;obtain ⟨x,f,l⟩:=ta hb;have:=zhm l;subst this;split at d
  ·rename_i hc;injection d with d
   refine ⟨Tr.put h a.block (some (.row (zw c a.off vs) e)),?_,?_⟩
   ·unfold pH;rw [f];simp only [hc,wi,Tr.set_eq]
   rw [tD,←d];rfl
  cases d
 cases d
def yr (E:Env)(t:TypeId)(h:HF)(a:Addr):Option Value:=
 match isAgg E t,E.inf t with
 |some true,some (sz,_,_)=>(uy h a sz).map fun cs=>.agg cs.toArray
 |some false,_=>match uy h a 1 with|some [v]=>some v|_=>none
 |_,_=>none
theorem bW (E:Env)(t:TypeId)(h:Hp)(a:Addr):mr E t h a=yr E t (hv h) a:=by
 unfold mr yr;simp only [bX];rfl
inductive RF where
 |val (v:Value) (h:HF) (n:Nat) (w:List Nat)
 |enter (f:FuncId) (args:List Value)
 |round (l:Nat) (args:List Value)
noncomputable def R.view:R→RF
 | .val v h n w=>.val v (hv h) n w
 | .enter f a=>.enter f a
 | .round l a=>.round l a
def yn (h:HF)(size n:Nat):Value→Option (List Value)
 | jx (some a) _ _=>if n*size=0 then some [] else uy h a (n*size)
 | jx none _ _=>some []
 | kF s=>some ((s.data.toList.take n).map fun b=>jy .u8 b.toNat)
 |_=>none
theorem qa (h:Hp)(a n:Nat)(v:Value):wJ h a n v=yn (hv h) a n v:=by
 unfold wJ yn;split<;>simp only [bX]
def iJ (h:HF)(b cells:Nat)(e:TypeId):Bool:=match h b with|some (.row c e')=>AG (gP c) cells&&AG e' e|_=>false
theorem zic (h:Hp)(b a:Nat)(e:TypeId):zid h b a e=iJ (hv h) b a e:=by
 unfold zid iJ;cases hx:h.at b with
 |none=>simp [hv,hx]
 |some x=>rw [zne hx];cases x<;>rfl
def eG (h:HF)(n:Nat)(e:TypeId)(cs:List Value)(need cells sz:Nat)(base:Option Addr):Option RF:=
 match base with
 |none=>some (.val (jx (some ⟨3*n+1,0,none⟩) need need) (upd h (3*n+1) (some (.row cs e))) (n+1) [])
 |some a=>
  match gro a.block with
  |true=>
   match AG a.off 0&&(a.spot.isNone&&(iJ h a.block cells e&&(ones cs&&AG (gP cs) (need*sz)))) with
   |true=>some (.val (jx (some ⟨3*n+1,0,none⟩) need need) (upd (upd h a.block none) (3*n+1) (some (.row cs e))) (n+1) [a.block])
   |false=>none
  |false=>some (.val (jx (some ⟨3*n+1,0,none⟩) need need) (upd h (3*n+1) (some (.row cs e))) (n+1) [])
def To {α β:Type}(view:α→β)(a:Option α)(b:Option β):Prop:=∀y,b=some y→∃x,a=some x∧view x=y
theorem zng (h:Hp)(n:Nat)(e:TypeId)(cs:List Value)(need g sz:Nat)(f:Option Addr):To R.view (zb0 h n e cs need g sz f) (eG (hv h) n e cs need g sz f):=by
 intro y d;unfold eG at d;unfold zb0;cases f with
 |none=>
  injection d with d
  subst d;exact ⟨_,Tr.set_eq _ _ _ _,by simp [R.view,tD,Blk.view]⟩
 |some a=>
  simp only at d ⊢;cases hg:gro a.block with
  |true=>
   simp only [hg,zic] at d ⊢;split at d
   ·rename_i hc;injection d with d
    subst d;simp only [hc,Tr.set_eq];exact ⟨_,rfl,by simp [R.view,tD,Blk.view]⟩
   cases d
  |false=>
   simp only [hg] at d ⊢;injection d with d
   subst d;exact ⟨_,Tr.set_eq _ _ _ _,by simp [R.view,tD,Blk.view]⟩
def u9 (h:HF)(n size need:Nat)(base:Option Addr)(sLen sCap:Nat)(new:List Value):Option RF:=
 match base,new with
 |_,[]=>some (.val (jx base need sCap) h n [])
 |some a,new=>(match vl h (a.add (sLen*size)) new with|some h=>some (.val (jx base need sCap) h n [a.block])|none=>none)
 |none,_=>none
theorem zbz (h:Hp)(n o need:Nat)(f:Option Addr)(m l:Nat)(new:List Value):To R.view (rg h n o need f m l new) (u9 (hv h) n o need f m l new):=by
 intro y d;cases new with
 |nil=>
  cases f<;>(unfold u9 at d;unfold rg;injection d with d;subst d;exact ⟨_,rfl,rfl⟩)
 |cons v new=>
  cases f with
  |none=>cases d
  |some a=>
   unfold u9 at d;unfold rg;simp only at d ⊢;split at d
   ·rename_i g hg;injection d with d
    subst d;obtain ⟨s,p,q⟩:=nF hg;rw [p];exact ⟨_,rfl,by simp [R.view,q]⟩
   cases d
def xf (E:Env)(h:HF)(n:Nat)(sT:TypeId)(s x:Value):Option RF:=
 match E.und sT with
 |some (.slice e)=>
  match E.inf e,s,lenOf? x with
  |some (size,bytes,z),jx base sLen sCap,some m=>
   match yn h size m x with
   |some new=>
    match Ai ((sLen+m)*bytes) 1099511627776&&(AG (gP (zC z)) size&&Ai 1 size&&Ai 1 bytes) with
    |true=>
     match Ai (sLen+m) sCap with
     |true=>u9 h n size (sLen+m) base sLen sCap new
     |false=>
      match yn h size sLen s with
      |some old=>eG h n e (old++new) (sLen+m) (sCap*size) size base
      |none=>none
    |false=>none
   |none=>none
  |_,_,_=>none
 |_=>none
theorem zg9 (E:Env)(h:Hp)(n:Nat)(sT:TypeId)(s x:Value):To R.view (pC E h n sT s x) (xf E (hv h) n sT s x):=by
 intro y a;unfold xf at a;unfold pC;split at a
 ·rename_i e hu;simp only [hu];split at a
  ·rename_i size bytes z base sLen sCap m hi hm;simp only [hi,hm,qa];split at a
   ·rename_i new hnew;simp only [hnew];split at a
    ·rename_i hc;simp only [hc];split at a
     ·rename_i hp;simp only [hp];exact zbz _ _ _ _ _ _ _ _ y a
     rename_i hp;simp only [hp];split at a
     ·rename_i old hold;simp only [hold,wi];exact zng _ _ _ _ _ _ _ _ y a
     cases a
    cases a
   cases a
  cases a
 cases a
def kb (E:Env)(h:HF)(n:Nat)(dT:TypeId)(d x:Value):Option RF:=
 match E.und dT with
 |some (.slice e)=>
  match E.inf e,d,lenOf? x with
  |some (size,_,_),jx base dLen _,some m=>
   match yn h size (Fs m dLen) x,base with
   |some [],_=>some (.val (goInt (Fs m dLen)) h n [])
   |some cs,some a=>(match vl h a cs with|some h=>some (.val (goInt (Fs m dLen)) h n [a.block])|none=>none)
   |_,_=>none
  |_,_,_=>none
 |_=>none
theorem znz (E:Env)(h:Hp)(n:Nat)(l:TypeId)(d x:Value):To R.view (zcf E h n l d x) (kb E (hv h) n l d x):=by
 intro y f;unfold kb at f;unfold zcf;split at f
 ·rename_i e hu;simp only [hu];split at f
  ·rename_i size _ _ base dLen c m hi hm;simp only [hi,hm,qa];cases hcs:yn (hv h) size (Fs m dLen) x with
   |none=>rw [hcs] at f;cases base<;>cases f
   |some cs=>
    rw [hcs] at f;cases cs with
    |nil=>
     cases base<;>(simp only at f ⊢;injection f with f;subst f;exact ⟨_,rfl,rfl⟩)
    |cons v cs=>
     cases base with
     |none=>cases f
     |some a=>
      simp only at f ⊢;split at f
      ·rename_i g hg;injection f with f
       subst f;obtain ⟨q,o,p⟩:=nF hg;rw [o];exact ⟨_,rfl,by simp [R.view,p]⟩
      cases f
  cases f
 cases f
def rC (E:Env)(t:TypeId)(a x:Value)(h:HF)(n:Nat):Option RF:=
 match a,E.inf t with
 | kS (some ad),some (sz,_,_)=>
  match AG (gP (zC x)) sz with
  |true=>(match vl h ad (zC x) with|some h=>some (.val undef h n [ad.block])|none=>none)
  |false=>none
 |_,_=>none
theorem zh0 (E:Env)(t:TypeId)(a x:Value)(h:Hp)(n:Nat):To R.view (kl E t a x h n) (rC E t a x (hv h) n):=by
 intro y d;unfold rC at d;unfold kl;split at d
 ·rename_i ad sz _ _ hi;simp only [hi];split at d
  ·rename_i hl;simp only [hl];split at d
   ·rename_i g hg;injection d with d
    subst d;obtain ⟨m,f,l⟩:=nF hg;rw [f];exact ⟨_,rfl,by simp [R.view,l]⟩
   cases d
  cases d
 cases d
def zqa (E:Env)(f:Value)(args:List Value)(h:HF)(n:Nat):Option RF:=
 match f with
 | .func (.func g) first cap=>(match E.ext g (first.toList++(args++cap.toList)) with|some v=>some (.val v h n [])|none=>some (.enter g (first.toList++(args++cap.toList))))
 | .func (.yield l) first _=>some (.round l (first.toList++args))
 |_=>none
def appF (E:Env)(ts:List TypeId)(args:List Value)(h:HF)(n:Nat):Option RF:=
 match args,ts with
 |[s,x],[sT,xT]=>(match E.und xT with|some (.int _)=>none|none=>none|_=>xf E h n sT s x)
 |_,_=>none
def cpyF (E:Env)(ts:List TypeId)(args:List Value)(h:HF)(n:Nat):Option RF:=
 match args,ts with
 |[s,x],sT::_=>kb E h n sT s x
 |_,_=>none
def zgy (E:Env)(c:Callee)(ts:List TypeId)(ρ:Operand→Value)(args:List Value)(h:HF)(n:Nat):Option RF:=
 match c with
 | .builtin .append=>appF E ts args h n
 | .builtin .copy=>cpyF E ts args h n
 | .value f=>zqa E (ρ f) args h n
 |_=>none
def effF (E:Env)(o:Op)(ρ:Operand→Value)(h:HF)(n:Nat):Option RF:=
 match o with
 | .store t a x=>rC E t (ρ a) (ρ x) h n
 | .call c=>zgy E c.callee c.argTypes.toList ρ (c.args.toList.map ρ) h n
 |_=>none
theorem zfw (E:Env)(o:Op)(ρ:Operand→Value)(h:Hp)(n:Nat):To R.view (effE E o ρ h n) (effF E o ρ (hv h) n):=by
 intro y a;unfold effF at a;unfold effE;split at a
 ·exact zh0 _ _ _ _ _ _ y a
 ·rename_i c;unfold zgy at a;unfold pA;split at a
  ·rename_i hcal;simp only [hcal];unfold appF at a;unfold appE;split at a
   ·rename_i s x sT xT hs hT;simp only [hs,hT];split at a
    ·cases a
    ·cases a
    rename_i h1 h2;cases hu:E.und xT with
    |none=>exact cA hu h2
    |some d=>
     cases d with
     |int k=>exact cA hu (h1 k)
     |_=>exact zg9 _ _ _ _ _ _ y a
   cases a
  ·rename_i hcal;simp only [hcal];unfold cpyF at a;unfold cpyE;split at a
   ·rename_i s x sT r hs hT;simp only [hs,hT];exact znz _ _ _ _ _ _ y a
   cases a
  ·rename_i f hcal;simp only [hcal];unfold zqa at a;unfold zfg;cases hf:ρ f with
   |func p first m=>
    rw [hf] at a;cases p with
    |func g=>
     simp only at a ⊢;cases hx:E.ext g (first.toList++(c.args.toList.map ρ++m.toList)) with
     |none=>simp only [hx] at a ⊢;injection a with a;subst a;exact ⟨_,rfl,rfl⟩
     |some v=>simp only [hx] at a ⊢;injection a with a;subst a;exact ⟨_,rfl,rfl⟩
    |yield l=>simp only at a ⊢;injection a with a;subst a;exact ⟨_,rfl,rfl⟩
    |_=>cases a
   |_=>rw [hf] at a;cases a
  cases a
 cases a
def qP (E:Env)(t d:TypeId)(x:Value)(h:HF):Option Value:=
 match x,E.und t,E.und d with
 | jx a len c,some (.slice e),some .string=>
  match E.und e,yn h 1 len (jx a len c) with
  |some (.int .u8),some cs=>(match oe cs with|some l=>some (kF ⟨⟨l⟩⟩)|none=>none)
  |_,_=>none
 |_,_,_=>none
theorem zlx (E:Env)(t d:TypeId)(x:Value)(h:Hp):zc8 E t d x h=qP E t d x (hv h):=by
 unfold zc8 qP;simp only [qa];rfl
def mu (E:Env)(o:Op)(ρ:Operand→Value)(h:HF):Option (Value×Nat):=
 match o with
 | .load t a=>(match ρ a with| kS (some ad)=>(match yr E t h ad with|some v=>some (v,ad.block)|none=>none)|_=>none)
 |_=>none
theorem zeu (E:Env)(o:Op)(ρ:Operand→Value)(h:Hp):u7 E o ρ h=mu E o ρ (hv h):=by
 unfold u7 mu;simp only [bW];rfl
structure SV where
 t:TF
 h:HF
 n:Nat
 w:List Nat
noncomputable def vw (s:St):SV:=⟨nth s.t,hv s.h,s.n,s.w⟩
structure CalF where
 call:FuncId→List Value→HF→Nat→Option (Value×HF×Nat×List Nat)
 yl:Nat→List Value→HF→Nat→Option (Value×HF×Nat×List Nat)
structure CtxF where
 E:Env
 C:CalF
 L:Nat
 round:Option Nat
 n0:Nat
 nt:Nat
noncomputable def rv (r:Value×Hp×Nat×List Nat):Value×HF×Nat×List Nat:=(r.1,hv r.2.1,r.2.2.1,r.2.2.2)
structure CalTo (C:Cal)(F:CalF):Prop where
 call:∀f args h n,To rv (C.call f args h n) (F.call f args (hv h) n)
 yl:∀l args h n,To rv (C.yl l args h n) (F.yl l args (hv h) n)
structure CtxTo (X:Ctx)(Y:CtxF):Prop where
 E:X.E=Y.E
 C:CalTo X.C Y.C
 L:X.L=Y.L
 round:X.round=Y.round
 n0:X.n0=Y.n0
 nt:X.nt=Y.nt
def zv (nt:Nat):Option Tmp→Bool
 |some i=> !Nat.ble nt i
 |none=>true
def putF (τ:TF):Option Tmp→Value→TF
 |some i,v=>upd τ i v
 |none,_=>τ
def xS {β:Type}(X:CtxF)(s:SV)(d:Option Tmp)(v:Value)(h:HF)(n:Nat)(w:List Nat)(k:SV→Option β):Option β:=
 match zv X.nt d with
 |true=>k ⟨putF s.t d v,h,n,addW X.n0 w s.w⟩
 |false=>none
theorem wR {c:α→β}{X:Ctx}{Y:CtxF}(a:CtxTo X Y){s:St}{d:Option Tmp}{h:Hp}{k:St→Option α}{g:SV→Option β}(f:∀s,To c (k s) (g (vw s))):
  To c (done X s d v h n w k) (xS Y (vw s) d v (hv h) n w g):=by
 intro y b;unfold xS at b;unfold done;rw [qH];split at b
 ·rename_i e;cases d with
  |none=>
   simp only [putK,xF];refine f _ y ?_;rw [←b,a.n0];rfl
  |some i=>
   have e:Ai X.nt i=false:=by rw [a.nt];simpa [zv] using e
   simp only [putK,e,Tr.set_eq,xF];refine f _ y ?_;rw [←b,a.n0];simp [vw,putF,eh]
 cases b
def mkF {β:Type}(X:CtxF)(s:SV)(d:Option Tmp)(m:Mk)(k:SV→Option β):Option β:=
 xS X s d (m.val s.n) (upd s.h (m.name s.n) (some (.row m.c m.e))) (s.n+1) [] k
theorem zm0 {a:α→β}{X:Ctx}{Y:CtxF}(b:CtxTo X Y){s:St}{d:Option Tmp}{m:Mk}{k:St→Option α}{f:SV→Option β}(g:∀s,To a (k s) (f (vw s))):
  To a (mkK X s d m k) (mkF Y (vw s) d m f):=by
 unfold mkK mkF;rw [wi,Tr.set_eq];have:=wR b (s:=s) (d:=d) (v:=m.val s.n) (h:=Tr.put s.h (m.name s.n) (some (.row m.c m.e))) (n:=s.n+1) (w:=[]) g;rw [tD] at this;exact this
def mG {β:Type}(X:CtxF)(s:SV)(o:Oper)(k:SV→List Nat→Option β):Option β:=
 match effF X.E o.op (evF s.t) s.h s.n with
 |some (.val v h n w)=>xS X s o.dst v h n w fun s=>k s w
 |some (.enter f args)=>(match X.C.call f args s.h s.n with|some (v,h,n,w)=>xS X s o.dst v h n w fun s=>k s w|none=>none)
 |some (.round l args)=>(match X.C.yl l args s.h s.n with|some (v,h,n,w)=>xS X s o.dst v h n w fun s=>k s w|none=>none)
 |none=>none
theorem zfy {j:α→β}{X:Ctx}{Y:CtxF}(a:CtxTo X Y){s:St}{k:St→List Nat→Option α}{B:SV→List Nat→Option β}(u:∀s w,To j (k s w) (B (vw s) w)):
  To j (effK X s o k) (mG Y (vw s) o B):=by
 intro y b;unfold mG at b;unfold effK;split at b
 ·rename_i v h n w he;obtain ⟨r,d,e⟩:=zfw _ _ _ _ _ _ he;rw [a.E,eW,show effE Y.E o.op (evF (nth s.t)) s.h s.n=some r from d];cases r with
  |val F A D p=>
   simp only [R.view,RF.val.injEq] at e;obtain ⟨rfl,rfl,rfl,rfl⟩:=e;exact wR a (fun s=>u s p) y b
  |enter=>cases e
  |round=>cases e
 ·rename_i f args he;obtain ⟨r,d,e⟩:=zfw _ _ _ _ _ _ he;rw [a.E,eW,show effE Y.E o.op (evF (nth s.t)) s.h s.n=some r from d];cases r with
  |enter f' args'=>
   simp only [R.view,RF.enter.injEq] at e;obtain ⟨rfl,rfl⟩:=e;simp only;split at b
   ·rename_i v g n w hc;obtain ⟨⟨F,A,D,p⟩,q,c⟩:=a.C.call _ _ _ _ _ hc;simp only [rv,BL] at c;obtain ⟨rfl,rfl,rfl,rfl⟩:=c;rw [show X.C.call f' args' s.h s.n=_ from q];exact wR a (fun s=>u s p) y b
   cases b
  |val=>cases e
  |round=>cases e
 ·rename_i l args he;obtain ⟨r,d,e⟩:=zfw _ _ _ _ _ _ he;rw [a.E,eW,show effE Y.E o.op (evF (nth s.t)) s.h s.n=some r from d];cases r with
  |round l' args'=>
   simp only [R.view,RF.round.injEq] at e;obtain ⟨rfl,rfl⟩:=e;simp only;split at b
   ·rename_i v g n w hc;obtain ⟨⟨F,A,D,p⟩,q,c⟩:=a.C.yl _ _ _ _ _ hc;simp only [rv,BL] at c;obtain ⟨rfl,rfl,rfl,rfl⟩:=c;rw [show X.C.yl l' args' s.h s.n=_ from q];exact wR a (fun s=>u s p) y b
   cases b
  |val=>cases e
  |enter=>cases e
 cases b
def opF {β:Type}(X:CtxF)(s:SV)(o:Oper)(k:SV→Option β):Option β:=
 match cls o.op with
 |0=>(match yA X.E o.op (evF s.t) with|some v=>xS X s o.dst v s.h s.n [] k|none=>none)
 |1=>(match mu X.E o.op (evF s.t) s.h with|some (v,_)=>xS X s o.dst v s.h s.n [] k|none=>none)
 |2=>(match mkE X.E o.op (evF s.t) with|some m=>mkF X s o.dst m k|none=>none)
 |3=>mG X s o fun s _=>k s
 |_=>
  match mkE X.E o.op (evF s.t) with
  |some m=>mkF X s o.dst m k
  |none=>
   match o.op with
   | .convert t d x=>(match qP X.E t d (evF s.t x) s.h with|some v=>xS X s o.dst v s.h s.n [] k|none=>(match yA X.E o.op (evF s.t) with|some v=>xS X s o.dst v s.h s.n [] k|none=>none))
   |_=>none
theorem zrn {g:α→β}{X:Ctx}{Y:CtxF}(e:CtxTo X Y){s:St}{k:St→Option α}{l:SV→Option β}(f:∀s,To g (k s) (l (vw s))):
  To g (opK X s o k) (opF Y (vw s) o l):=by
 intro y a;have j:ev s.t=evF (vw s).t:=eW _;unfold opF at a;unfold opK;rw [e.E,j];cases hc:cls o.op with
 |zero=>
  simp only [hc] at a ⊢;split at a
  ·rename_i v hv';rw [hv'];exact wR e f y a
  cases a
 |succ c=>
  cases c with
  |zero=>
   simp only [hc] at a ⊢;split at a
   ·rename_i v b hv';rw [zeu,show mu Y.E o.op (evF (vw s).t) (hv s.h)=some (v,b) from hv'];exact wR e f y a
   cases a
  |succ c=>
   cases c with
   |zero=>
    simp only [hc] at a ⊢;split at a
    ·rename_i m hm;rw [hm];exact zm0 e f y a
    cases a
   |succ c=>
    cases c with
    |zero=>
     simp only [hc] at a ⊢;exact zfy e (fun s _=>f s) y a
    |succ c=>
     simp only [hc] at a ⊢;split at a
     ·rename_i m hm;simp only [hm];exact zm0 e f y a
     rename_i hm;simp only [hm];split at a
     ·rename_i t d x ho;simp only [ho,zlx];simp only [ho] at a;cases ht:qP Y.E t d (evF (vw s).t x) (vw s).h with
      |some v=>
       rw [ht] at a;rw [show qP Y.E t d (evF (vw s).t x) (hv s.h)=some v from ht];exact wR e f y a
      |none=>
       rw [ht] at a;rw [show qP Y.E t d (evF (vw s).t x) (hv s.h)=none from ht];simp only at a ⊢;split at a
       ·rename_i v hv';rw [hv'];exact wR e f y a
       cases a
     cases a
def zi (ops:List Oper)(τ:TF)(o:Oper):Bool:=
 match o.guard with
 |none=>true
 |some (j,b)=>
  match ops[j]? with
  |some g=>(match g.dst with|some d=>(match τ d with| kz c=>(match b,c with|true,true=>true|false,false=>true|_,_=>false)|_=>false)|none=>false)
  |none=>false
theorem ke (ops:List Oper)(t:Tr Value)(o:Oper):vg ops t o=zi ops (nth t) o:=rfl
def seqF (X:CtxF)(ops:List Oper):List Oper→SV→Option SV
 |[],s=>some s
 |o::r,s=>(match zi ops s.t o with|true=>opF X s o (seqF X ops r)|false=>xS X s o.dst undef s.h s.n [] (seqF X ops r))
theorem zo9 {X:Ctx}{Y:CtxF}(a:CtxTo X Y)(ops:List Oper):∀(l:List Oper) (s:St),To vw (rE X ops l s) (seqF Y ops l (vw s)):=by
 intro l;induction l with
 |nil=>intro s y b;injection b with b;exact ⟨s,rfl,b⟩
 |cons o l ih=>
  intro s;show To vw (Bool.rec (motive:=fun _=>Option St) (done X s o.dst undef s.h s.n [] (rE X ops l)) (opK X s o (rE X ops l)) (vg ops s.t o)) _;unfold seqF;rw [ke];cases hw:zi ops (nth s.t) o with
  |true=>
   rw [show zi ops (vw s).t o=true from hw];exact zrn a ih
  |false=>
   rw [show zi ops (vw s).t o=false from hw];exact wR a ih
structure DF where
 s:SV
 al:List (Nat×Nat)
 ld:List (Nat×Nat)
 ef:List (Nat×HF×List Nat)
noncomputable def efv (l:List (Nat×Hp×List Nat)):List (Nat×HF×List Nat):=l.map fun x=>(x.1,hv x.2.1,x.2.2)
noncomputable def dv (d:Dr):DF:=⟨vw d.s,d.al,d.ld,efv d.ef⟩
def wz (u b:Nat):List (Nat×HF×List Nat)→Bool
 |[]=>true
 |(e,_,W)::r=>(match Er e u|| !memN b W with|true=>wz u b r|false=>false)
def wQ (m:Nat):List (Nat×HF×List Nat)→Nat→HF→Nat×HF
 |[],u,h=>(u,h)
 |(e,g,_)::r,u,h=>(match m.testBit e with|true=>wQ m r u h|false=>wQ m r e g)
def xg (m:Nat):List (Nat×HF×List Nat)→Bool
 |[]=>true
 |(j,_)::r=>(match m.testBit j with|true=>xg m r|false=>false)
theorem zea (u b:Nat)(l:List (Nat×Hp×List Nat)):pQ u b l=wz u b (efv l):=by
 induction l with
 |nil=>rfl
 |cons x l ih=>
  obtain ⟨e,g,W⟩:=x;show (match Er e u|| !memN b W with|true=>pQ u b l|false=>false)=(match Er e u|| !memN b W with|true=>wz u b (efv l)|false=>false);rw [ih]
theorem zj3 (m:Nat)(l:List (Nat×Hp×List Nat)):gU m l=xg m (efv l):=by
 induction l with
 |nil=>rfl
 |cons x l ih=>
  obtain ⟨e,g,W⟩:=x;show (match m.testBit e with|true=>gU m l|false=>false)=(match m.testBit e with|true=>xg m (efv l)|false=>false);rw [ih]
theorem zd0 (m:Nat):∀(l:List (Nat×Hp×List Nat)) (u:Nat) (h:Hp),wQ m (efv l) u (hv h)=((ut m l u h).1,hv (ut m l u h).2):=by
 intro l;induction l with
 |nil=>intro u h;rfl
 |cons x l ih=>
  intro u h;obtain ⟨e,g,W⟩:=x;show (match m.testBit e with|true=>wQ m (efv l) u (hv h)|false=>wQ m (efv l) e (hv g))=_;unfold ut;split
  ·rename_i hb;simp only [hb];exact ih u h
  rename_i hb;simp only [hb];exact ih e g
def pq {β:Type}(X:CtxF)(i m:Nat)(o:Oper)(d:DF)(k:DF→Option β):Option β:=
 match cls o.op with
 |1=>
  match wQ m d.ef i d.s.h with
  |(u,h)=>
   match mu X.E o.op (evF d.s.t) h with
   |some (v,b)=>(match wz u b d.ef&&ov m b d.al with|true=>xS X d.s o.dst v d.s.h d.s.n [] fun s=>k {d with s,ld:=(i,b)::d.ld}|false=>none)
   |none=>none
 |2=>
  match mkE X.E o.op (evF d.s.t) with
  |some mk=>mkF X d.s o.dst mk fun s=>k {d with s,al:=(i,mk.name d.s.n)::d.al}
  |none=>none
 |3=>
  match xg m d.ef&&xU m d.al with
  |true=>mG X d.s o fun s W=>(match yc m W d.ld&&Ai d.s.n s.n with|true=>k {d with s,ef:=(i,d.s.h,W)::d.ef}|false=>none)
  |false=>none
 |_=>(match yA X.E o.op (evF d.s.t) with|some v=>xS X d.s o.dst v d.s.h d.s.n [] fun s=>k {d with s}|none=>none)
theorem znq {f:α→β}{X:Ctx}{Y:CtxF}(c:CtxTo X Y){d:Dr}{k:Dr→Option α}{p:DF→Option β}(g:∀d,To f (k d) (p (dv d))):
  To f (zf3 X i m o d k) (pq Y i m o (dv d) p):=by
 intro y a;have l:ev d.s.t=evF (dv d).s.t:=eW _;unfold pq at a;unfold zf3;rw [c.E,l];split at a
 ·rename_i hc;simp only [hc];rw [show wQ m (dv d).ef i (dv d).s.h=_ from zd0 m d.ef i d.s.h] at a;generalize ut m d.ef i d.s.h=uh at a;obtain ⟨u,h⟩:=uh;simp only at a ⊢;split at a
  ·rename_i v b hl;rw [zeu,hl];simp only;split at a
   ·rename_i hok;rw [zea,show (wz u b (efv d.ef)&&ov m b d.al)=true from hok];exact wR c (fun s=>g {d with s,ld:=(i,b)::d.ld}) y a
   cases a
  cases a
 ·rename_i hc;simp only [hc];split at a
  ·rename_i mk hm;rw [hm];exact zm0 c (fun s=>g {d with s,al:=(i,mk.name d.s.n)::d.al}) y a
  cases a
 ·rename_i hc;simp only [hc];split at a
  ·rename_i hok;rw [zj3,show (xg m (efv d.ef)&&xU m d.al)=true from hok];refine zfy c (fun s W=>?_) y a;intro z j;split at j
   ·rename_i hok2;rw [show (yc m W d.ld&&Ai d.s.n s.n)=true from hok2];exact g {d with s,ef:=(i,d.s.h,W)::d.ef} z j
   cases j
  cases a
 rename_i h1 h2 h3;have:∀(A B C D:Option α),(match cls o.op with|1=>A|2=>B|3=>C|_=>D)=D:=fun A B C D=>by
  split
  ·exact cA (by assumption) h1
  ·exact cA (by assumption) h2
  ·exact cA (by assumption) h3
  rfl
 have e:=this;split
 ·exact cA (by assumption) h1
 ·exact cA (by assumption) h2
 ·exact cA (by assumption) h3
 split at a
 ·rename_i v hv';rw [hv'];exact wR c (fun s=>g {d with s}) y a
 cases a
def yi (X:CtxF)(ops:List Oper):List Oper→List Nat→Nat→DF→Option SV
 |[],_,_,d=>some d.s
 |o::r,m::ms,i,d=>
  match zi ops d.s.t o with
  |true=>pq X i m o d fun d=>yi X ops r ms (i+1) d
  |false=>xS X d.s o.dst undef d.s.h d.s.n [] fun s=>yi X ops r ms (i+1) {d with s}
 |_,_,_,_=>none
theorem zb7 {X:Ctx}{Y:CtxF}(b:CtxTo X Y)(ops:List Oper):∀(l:List Oper) (ms:List Nat) (i:Nat) (d:Dr),To vw (wD X ops l ms i d) (yi Y ops l ms i (dv d)):=by
 intro l;induction l with
 |nil=>intro ms i d y a;unfold yi at a;injection a with a;exact ⟨d.s,by unfold wD;rfl,a⟩
 |cons o l ih=>
  intro ms i d;cases ms with
  |nil=>intro y a;cases a
  |cons m ms=>
   intro y a;unfold yi at a;unfold wD;rw [ke];split at a
   ·rename_i hw;rw [show zi ops (nth d.s.t) o=true from hw];exact znq b (fun d=>ih ms (i+1) d) y a
   rename_i hw;rw [show zi ops (nth d.s.t) o=false from hw];exact wR b (fun s=>ih ms (i+1) {d with s}) y a
def eA (f:SV→Option (Ex×SV)):Nat→SV→Option (Ex×SV)
 |0,_=>none
 |n+1,s=>match f s with|some (.normal,s')=>eA f n s'|r=>r
noncomputable def ev2 (r:Ex×St):Ex×SV:=(r.1,vw r.2)
theorem zm5 {f:St→Option (Ex×St)}{g:SV→Option (Ex×SV)}(h:∀s,To ev2 (f s) (g (vw s))):∀(n:Nat) (s:St),To ev2 (eB f n s) (eA g n (vw s)):=by
 intro n;induction n with
 |zero=>intro s y a;cases a
 |succ n ih=>
  intro s y a;unfold eA at a;show ∃x,(match f s with|some (.normal,s')=>eB f n s'|r=>r)=some x∧ev2 x=y;split at a
  ·rename_i s' hs;obtain ⟨⟨e,d⟩,c,b⟩:=h s _ hs;simp only [ev2,BL] at b;obtain ⟨rfl,rfl⟩:=b;rw [c];exact ih d y a
  rename_i hne;obtain ⟨⟨e,d⟩,c,b⟩:=h s _ a;subst b;refine ⟨(e,d),?_,rfl⟩;rw [c];cases e with
  |normal=>exact cA a (hne _)
  |exit=>rfl
  |ret=>rfl
def iP (X:CtxF)(g:Value)(ps:List Tmp)(assign body:Code)(s:SV):Option (Ex×SV):=
 match g,X.round with
 | .func (.func gf) first cap,none=>
  match X.C.call gf (first.toList++([.func (.yield (3*(s.n+1)+2)) #[] #[]]++cap.toList)) (upd (upd s.h (3*s.n+2) (some .dfr)) (3*(s.n+1)+2) (some (.loop true none s.t X.nt ps assign body (3*s.n+2)))) (s.n+1+1) with
  |some (_,h3,n3,w3)=>
   match h3 (3*(s.n+1)+2),h3 (3*s.n+2) with
   |some (.loop r p _ _ _ _ _ _),some .dfr=>
    match ze5 r p with
    |some x=>some (x,⟨s.t,upd (upd h3 (3*(s.n+1)+2) none) (3*s.n+2) none,n3,addW X.n0 w3 s.w⟩)
    |none=>none
   |_,_=>none
  |none=>none
 |_,_=>none
theorem zii {X:Ctx}{Y:CtxF}(d:CtxTo X Y)(g:Value)(f:List Tmp)(a c:Code)(s:St):To ev2 (pN X g f a c s) (iP Y g f a c (vw s)):=by
 intro y b;unfold iP at b;unfold pN;split at b
 ·rename_i gf first cap hr
  rw [d.round,hr];simp only [xF,Tr.set_eq,d.nt,d.n0];split at b
  ·rename_i v3 g3 n3 w3 hc;have e:upd (upd (vw s).h (3*(vw s).n+2) (some BF.dfr)) (3*((vw s).n+1)+2) (some (.loop true none (vw s).t Y.nt f a c (3*(vw s).n+2)))=
     hv (Tr.put (Tr.put s.h (3*s.n+2) (some .dfr)) (3*(s.n+1)+2) (some (.loop true none s.t Y.nt f a c (3*s.n+2)))):=by
    rw [tD,tD];rfl
   rw [e] at hc;obtain ⟨⟨G,l,F,H⟩,q,u⟩:=d.C.call _ _ _ _ _ hc;simp only [rv,BL] at u;obtain ⟨rfl,rfl,rfl,rfl⟩:=u;have q:X.C.call gf (first.toList++([Value.func (Fn.yield (3*(s.n+1)+2)) #[] #[]]++cap.toList)) (Tr.put (Tr.put s.h (3*s.n+2) (some .dfr)) (3*(s.n+1)+2) (some (.loop true none s.t Y.nt f a c (3*s.n+2)))) (s.n+1+1)=some (G,l,F,H):=q;rw [q];simp only;split at b
   ·rename_i r p t' nt' ps' as' bd' d' hl hd;obtain ⟨J,B,j⟩:=ta hl;obtain ⟨I,A,D⟩:=ta hd;cases J<;>simp [Blk.view] at j;cases I<;>simp [Blk.view] at D;obtain ⟨rfl,rfl,_⟩:=j;rw [show Hp.at l (3*(s.n+1)+2)=_ from B,show Hp.at l (3*s.n+2)=_ from A];simp only;split at b
    ·rename_i x hj;injection b with b
     subst b;rw [hj];refine ⟨_,rfl,?_⟩;simp only [ev2,vw,tD];rfl
    cases b
   cases b
  cases b
 cases b
def xz (X:CtxF):Code→SV→Option (Ex×SV)
 | .skip,s=>some (.normal,s)
 | .region _ ops d,s=>(match d with
   |false=>(match seqF X ops.toList ops.toList s with|some s=>some (.normal,s)|none=>none)
   |true=>(match yi X ops.toList ops.toList (wM ops.toList []) 0 ⟨s,[],[],[]⟩ with|some s=>some (.normal,s)|none=>none))
 | .seq a b,s=>(match xz X a s with|some (.normal,s')=>xz X b s'|r=>r)
 | .cond c a b,s=>(match evF s.t c with| kz true=>xz X a s| kz false=>xz X b s|_=>none)
 | .block id b,s=>(match xz X b s with|some (.exit j,s')=>(match AG j id with|true=>some (.normal,s')|false=>some (.exit j,s'))|r=>r)
 | .loop b,s=>eA (xz X b) X.L s
 | .rangeFunc f ps assign body,s=>iP X (evF s.t f) ps.toList assign body s
 | .exit id,s=>some (.exit id,s)
 | .scope b,s=>xz X b s
 | .label _,s=>some (.normal,s)
 | .goto _,_=>none
 | .ret,s=>some (.ret,s)
 | .refuse _,_=>none
theorem eS {X:Ctx}{Y:CtxF}(A:CtxTo X Y):∀(c:Code) (s:St),To ev2 (ug X c s) (xz Y c (vw s)):=by
 intro c;induction c with
 |skip=>intro s y g;injection g with g;exact ⟨_,rfl,g⟩
 |label l=>intro s y g;injection g with g;exact ⟨_,rfl,g⟩
 |exit id=>intro s y g;injection g with g;exact ⟨_,rfl,g⟩
 |ret=>intro s y g;injection g with g;exact ⟨_,rfl,g⟩
 |goto l=>intro s y g;cases g
 |refuse l=>intro s y g;cases g
 |region id ops d=>
  intro s y g;cases d with
  |false=>
   unfold xz at g;simp only at g;split at g
   ·rename_i u hs;injection g with g
    subst g;obtain ⟨B,p,rfl⟩:=zo9 A _ _ s _ hs;refine ⟨(.normal,B),?_,rfl⟩;show (match rE X ops.toList ops.toList s with|some s=>some (Ex.normal,s)|none=>none)=_;rw [p]
   cases g
  |true=>
   unfold xz at g;simp only at g;split at g
   ·rename_i u hs;injection g with g
    subst g;obtain ⟨B,p,rfl⟩:=zb7 A _ _ _ 0 ⟨s,[],[],[]⟩ _ hs;refine ⟨(.normal,B),?_,rfl⟩;show (match wD X ops.toList ops.toList (wM ops.toList []) 0 ⟨s,[],[],[]⟩ with|some s=>some (Ex.normal,s)|none=>none)=_;rw [p]
   cases g
 |seq a b iha ihb=>
  intro s y g;unfold xz at g;show ∃x,(match ug X a s with|some (.normal,s')=>ug X b s'|r=>r)=some x∧ev2 x=y;split at g
  ·rename_i s' hs;obtain ⟨⟨e,u⟩,p,q⟩:=iha s _ hs;simp only [ev2,BL] at q;obtain ⟨rfl,rfl⟩:=q;rw [p];exact ihb u y g
  rename_i hne;obtain ⟨⟨e,u⟩,p,q⟩:=iha s _ g;subst q;refine ⟨(e,u),?_,rfl⟩;rw [p];cases e with
  |normal=>exact cA g (hne _)
  |exit=>rfl
  |ret=>rfl
 |cond c a b iha ihb=>
  intro s y g;unfold xz at g;show ∃x,(match ev s.t c with| kz true=>ug X a s| kz false=>ug X b s|_=>none)=some x∧ev2 x=y;rw [eW];split at g
  ·rename_i hv';rw [show evF (nth s.t) c=_ from hv'];exact iha s y g
  ·rename_i hv';rw [show evF (nth s.t) c=_ from hv'];exact ihb s y g
  cases g
 |block id b ihb=>
  intro s y g;unfold xz at g;show ∃x,(match ug X b s with|some (.exit j,s')=>(match AG j id with|true=>some (Ex.normal,s')|false=>some (.exit j,s'))|r=>r)=some x∧ev2 x=y;split at g
  ·rename_i j s' hs;obtain ⟨⟨e,u⟩,p,q⟩:=ihb s _ hs;simp only [ev2,BL] at q;obtain ⟨rfl,rfl⟩:=q;rw [p];simp only;split at g
   ·rename_i hj;injection g with g
    subst g;first|(rw [hj];exact ⟨_,rfl,rfl⟩)|exact ⟨_,rfl,rfl⟩
   rename_i hj;injection g with g
   subst g;first|(rw [hj];exact ⟨_,rfl,rfl⟩)|exact ⟨_,rfl,rfl⟩
  rename_i hne;obtain ⟨⟨e,u⟩,p,q⟩:=ihb s _ g;subst q;refine ⟨(e,u),?_,rfl⟩;rw [p];cases e with
  |normal=>rfl
  |exit j=>exact cA g (hne _ _)
  |ret=>rfl
 |loop b ihb=>
  intro s;show To ev2 (eB (ug X b) X.L s) (eA (xz Y b) Y.L (vw s));rw [A.L];exact zm5 ihb _ _
 |scope b ihb=>intro s;exact ihb s
 |rangeFunc f ps asg bd _ _=>
  intro s;show To ev2 (pN X (ev s.t f) ps.toList asg bd s) (iP Y (evF (nth s.t) f) ps.toList asg bd (vw s));rw [eW];exact zii A _ _ _ _ _
def resF (E:Env)(s:SV):List ResultVar→Option (List Value)
 |[]=>some []
 | .tmp t::r=>(match resF E s r with|some l=>some (s.t t::l)|none=>none)
 | .cell a t::r=>
  match s.t a with
  | kS (some ad)=>(match yr E t s.h ad,resF E s r with|some v,some l=>some (v::l)|_,_=>none)
  |_=>none
theorem zpc (E:Env)(s:St):∀l,resE E s l=resF E (vw s) l:=by
 intro l;induction l with
 |nil=>rfl
 |cons r l ih=>
  cases r with
  |tmp t=>
   show (match resE E s l with|some l=>some (nth s.t t::l)|none=>none)=(match resF E (vw s) l with|some l=>some ((vw s).t t::l)|none=>none);rw [ih];rfl
  |cell a t=>
   show (match nth s.t a with| kS (some ad)=>(match mr E t s.h ad,resE E s l with|some v,some l=>some (v::l)|_,_=>none)|_=>none)=(match (vw s).t a with| kS (some ad)=>(match yr E t (vw s).h ad,resF E (vw s) l with|some v,some l=>some (v::l)|_,_=>none)|_=>none);simp only [ih,bW];rfl
def kd (args:List Value):TF:=fun j=>args.getD j undef
theorem zg8 (args:List Value)(d:Nat){t:Tr Value}(h:∀j,nth t j=if 0≤j∧j<0+gP args then args.getD (j-0) undef else nth (Tr.mk undef d) j):nth t=kd args:=by
 funext j;rw [h];unfold kd;split
 ·rfl
 rename_i hj;rw [show nth (Tr.mk undef d) j=undef from Tr.get_mk undef d j];simp [List.getD,Ad (show gP args≤j by omega)]
theorem zbk:∀(args:List Value) (i:Nat) (t:Tr Value),∃t',(∀k:Tr Value→Option β,nV args i t k=k t')∧∀j,nth t' j=if i≤j∧j<i+gP args then args.getD (j-i) undef else nth t j:=by
 intro args;induction args with
 |nil=>intro i t;exact ⟨t,fun k=>rfl,fun j=>by rw [cC gN]⟩
 |cons v args ih=>
  intro i t;obtain ⟨c,b,a⟩:=ih (i+1) (Tr.put t i v);refine ⟨c,fun k=>?_,fun j=>?_⟩
  ·show Tr.set t i v (fun t=>nV args (i+1) t k)=_;rw [Tr.set_eq,b]
  rw [a,eh];simp only [Au,upd];by_cases hj:j=i
  ·subst hj;rw [cC zo,eN rfl,eN zo];simp
  by_cases hr:i+1≤j∧j<i+1+gP args
  ·rw [eN hr,eN zo];rw [show j-i=(j-(i+1))+1 from zo];simp
  rw [cC hr,cC hj,cC zo]
def pg (vs:List Value):Value:=match vs with|[v]=>v|vs=>.tuple ⟨vs⟩
def endF (E:Env)(f:FuncId)(h:HF)(n:Nat)(s:SV)(vs:List Value):Value×HF×Nat×List Nat:=
 match E.pure f&&td vs,s.w with
 |true,[]=>(pg vs,h,n,[])
 |_,w=>(pg vs,s.h,s.n,w)
def fnF (E:Env)(C:CalF)(L:Nat)(f:FuncId)(args:List Value)(h:HF)(n:Nat):Option (Value×HF×Nat×List Nat):=
 match E.fn f with
 |some fn=>
  match fn.body with
  |some body=>
   match Ai (gP args) fn.ntmps with
   |true=>
    match xz {E,C,L,round:=none,n0:=n,nt:=fn.ntmps} body ⟨kd args,h,n,[]⟩ with
    |some (.exit _,_)=>none
    |some (_,s)=>
     match resF E s fn.results.toList with
     |some vs=>some (endF E f h n s vs)
     |none=>none
    |none=>none
   |false=>none
  |none=>none
 |none=>none
theorem zrr {E:Env}{C:Cal}{F:CalF}(u:CalTo C F)(f:FuncId)(args:List Value)(h:Hp)(n:Nat):To rv (fnE E C L f args h n) (fnF E F L f args (hv h) n):=by
 intro y a;unfold fnF at a;unfold fnE;split at a
 ·rename_i fn hfn;simp only [hfn];split at a
  ·rename_i body hb;simp only [hb];split at a
   ·rename_i hle;simp only [hle];obtain ⟨i,B,A⟩:=zbk (β:=Value×Hp×Nat×List Nat) args 0 (Tr.mk undef E.dT);rw [B];have l:nth i=kd args:=zg8 args _ A;have o:=eS (X:={E,C,L,round:=none,n0:=n,nt:=fn.ntmps}) (Y:={E,C:=F,L,round:=none,n0:=n,nt:=fn.ntmps}) ⟨rfl,u,rfl,rfl,rfl,rfl⟩ body {t:=i,h,n,w:=[]};have m:vw {t:=i,h,n,w:=[]}=⟨kd args,hv h,n,[]⟩:=by simp [vw,l]
    rw [m] at o;cases he:xz {E,C:=F,L,round:=none,n0:=n,nt:=fn.ntmps} body ⟨kd args,hv h,n,[]⟩ with
    |none=>rw [he] at a;cases a
    |some r=>
     obtain ⟨⟨e,s⟩,p,q⟩:=o r he;subst q;rw [he] at a;rw [p];have g:(match resF E (vw s) fn.results.toList with|some c=>some (endF E f (hv h) n (vw s) c)|none=>none)=some y→
       ∃x,(match resE E s fn.results.toList with
        |some c=>mE c fun c=>(match E.pure f&&td c,s.w with
         |true,[]=>some ((match c with|[v]=>v|c=>FM ⟨c⟩),h,n,[])
         |_,w=>some ((match c with|[v]=>v|c=>FM ⟨c⟩),s.h,s.n,w))
        |none=>none)=some x∧rv x=y:=fun a=>by
      rw [zpc];cases hr:resF E (vw s) fn.results.toList with
      |none=>rw [hr] at a;cases a
      |some c=>
       rw [hr] at a;injection a with a
       subst a;simp only [kI];unfold endF;cases hp:E.pure f&&td c with
       |true=>
        cases hw:s.w with
        |nil=>
         rw [show (vw s).w=[] from hw];exact ⟨_,rfl,rfl⟩
        |cons b w=>
         rw [show (vw s).w=b::w from hw];exact ⟨_,rfl,rfl⟩
       |false=>
        refine ⟨_,rfl,?_⟩;rfl
     cases e with
     |exit j=>cases a
     |normal=>exact g a
     |ret=>exact g a
   cases a
  cases a
 cases a
def pL (nt:Nat):List Tmp→List Value→TF→Option TF
 |p::ps,v::vs,t=>(match Ai nt p with|true=>none|false=>pL nt ps vs (upd t p v))
 |_,_,t=>some t
theorem zh6 (nt:Nat):∀(a:List Tmp) (vs:List Value) (t:Tr Value) (τ:TF),pL nt a vs (nth t)=some τ→∃b,(∀{β:Type} (k:Tr Value→Option β),vI.setPs nt a vs t k=k b)∧nth b=τ:=by
 intro a;induction a with
 |nil=>intro vs t τ h;unfold pL at h;injection h with h;exact ⟨t,fun k=>by unfold vI.setPs;rfl,h⟩
 |cons p a ih=>
  intro vs t τ h;cases vs with
  |nil=>unfold pL at h;injection h with h;exact ⟨t,fun k=>by unfold vI.setPs;rfl,h⟩
  |cons v vs=>
   unfold pL at h;split at h
   ·cases h
   rename_i hp;obtain ⟨b,c,e⟩:=ih vs (Tr.put t p v) τ (by rw [eh];exact h);refine ⟨b,fun k=>?_,e⟩;unfold vI.setPs;simp only [hp,Tr.set_eq];exact c k
def iK (E:Env)(C:CalF)(L:Nat)(l:Nat)(args:List Value)(h:HF)(n:Nat):Option (Value×HF×Nat×List Nat):=
 match h l with
 |some (.loop true none t0 nt0 ps0 assign0 body0 _)=>
  match AG (gP args) (gP ps0),pL nt0 ps0 args t0 with
  |true,some t1=>
   match xz {E,C,L,round:=some l,n0:=n,nt:=nt0} assign0 ⟨t1,h,n,[]⟩ with
   |some (.normal,s1)=>
    match s1.h l with
    |some (.loop true none t nt ps assign body d)=>
     match xz {E,C,L,round:=some l,n0:=n,nt:=nt0} body0 {s1 with h:=upd s1.h l (some (.loop false none t nt ps assign body d)),w:=l::s1.w} with
     |some (x,s2)=>
      match s2.h l with
      |some (.loop _ _ t nt ps assign body d)=>
       match x with
       | .normal=>some (kz true,upd s2.h l (some (.loop true none t nt ps assign body d)),s2.n,l::s2.w)
       | .ret=>some (kz false,upd s2.h l (some (.loop false (some .ret) t nt ps assign body d)),s2.n,l::s2.w)
       | .exit id=>some (kz false,upd s2.h l (some (.loop false (some (.exit id)) t nt ps assign body d)),s2.n,l::s2.w)
      |_=>none
     |none=>none
    |_=>none
   |_=>none
  |_,_=>none
 |_=>none
theorem np {x:Blk}{r:Bool}{p:Option Code}{τ:TF}{c:List Tmp}{a b:Code}(h:x.view=.loop r p τ nt c a b d):∃t,x=.loop r p t nt c a b d∧nth t=τ:=by
 cases x<;>simp [Blk.view] at h;obtain ⟨rfl,rfl,rfl,rfl,rfl,rfl,rfl,rfl⟩:=h;exact ⟨_,rfl,rfl⟩
theorem zie {E:Env}{C:Cal}{F:CalF}(H:CalTo C F)(l:Nat)(args:List Value)(h:Hp)(n:Nat):To rv (vI E C L l args h n) (iK E F L l args (hv h) n):=by
 intro y a;unfold iK at a;unfold vI;split at a
 ·rename_i τ0 nt0 ps0 assign0 body0 d0 hl;obtain ⟨x,I,s⟩:=ta hl;obtain ⟨J,rfl,rfl⟩:=np s;rw [I];simp only;split at a
  ·rename_i τ1 hb hs;simp only [hb];obtain ⟨K,B,rfl⟩:=zh6 nt0 ps0 args J _ hs;rw [B];have m:CtxTo {E,C,L,round:=some l,n0:=n,nt:=nt0} {E,C:=F,L,round:=some l,n0:=n,nt:=nt0}:=⟨rfl,H,rfl,rfl,rfl,rfl⟩;split at a
   ·rename_i b he1;obtain ⟨⟨e,b⟩,D,i⟩:=eS m assign0 {t:=K,h,n,w:=[]} _ he1;simp only [ev2,BL] at i;obtain ⟨rfl,rfl⟩:=i;rw [D];simp only;split at a
    ·rename_i τ nt ps assign body d hl1;obtain ⟨N,p,c⟩:=ta hl1;obtain ⟨t,rfl,rfl⟩:=np c;rw [show Hp.at b.h l=_ from p];simp only [Tr.set_eq];split at a
     ·rename_i xe u he2;have o:({vw b with h:=upd (vw b).h l (some (.loop false none (nth t) nt ps assign body d)),w:=l::(vw b).w}:SV)=vw {b with h:=Tr.put b.h l (some (.loop false none t nt ps assign body d)),w:=l::b.w}:=by
       simp only [vw,tD];rfl
      rw [o] at he2;obtain ⟨⟨A,u⟩,G,j⟩:=eS m body0 _ _ he2;simp only [ev2,BL] at j;obtain ⟨rfl,rfl⟩:=j;rw [G];simp only;split at a
      ·rename_i r' p' τ' nt' ps' as' bd' d' hl2;obtain ⟨O,q,g⟩:=ta hl2;obtain ⟨M,rfl,rfl⟩:=np g;rw [show Hp.at u.h l=_ from q];simp only;cases A with
       |normal=>
        injection a with a
        subst a;exact ⟨_,rfl,by simp only [rv,tD];rfl⟩
       |ret=>
        injection a with a
        subst a;exact ⟨_,rfl,by simp only [rv,tD];rfl⟩
       |exit id=>
        injection a with a
        subst a;exact ⟨_,rfl,by simp only [rv,tD];rfl⟩
      cases a
     cases a
    cases a
   cases a
  cases a
 cases a
noncomputable def orcF (orc:FuncId→List Value→Option Value)(G:HF→Prop)(f:FuncId)(args:List Value)(h:HF):Option Value:=
 open Classical in if G h then orc f args else none
noncomputable def calO (E:Env)(L:Nat)(orc:FuncId→List Value→Option Value)(G:HF→Prop):Nat→Cal
 |0=>⟨fun _ _ _ _=>none,fun _ _ _ _=>none⟩
 |k+1=>⟨fun f a h n=>(match orcF orc G f a (hv h) with|some v=>some (v,h,n,[])|none=>fnE E (calO E L orc G k) L f a h n),fun l a h n=>vI E (calO E L orc G k) L l a h n⟩
noncomputable def calF (E:Env)(L:Nat)(orc:FuncId→List Value→Option Value)(G:HF→Prop):Nat→CalF
 |0=>⟨fun _ _ _ _=>none,fun _ _ _ _=>none⟩
 |k+1=>⟨fun f a h n=>(match orcF orc G f a h with|some v=>some (v,h,n,[])|none=>fnF E (calF E L orc G k) L f a h n),fun l a h n=>iK E (calF E L orc G k) L l a h n⟩
theorem zqy (E:Env)(L:Nat)(c:FuncId→List Value→Option Value)(G:HF→Prop):∀k,CalTo (calO E L c G k) (calF E L c G k):=by
 intro k;induction k with
 |zero=>exact ⟨fun f a h n y b=>(by cases b),fun l a h n y b=>(by cases b)⟩
 |succ k ih=>
  refine ⟨fun f a h n y b=>?_,fun l a h n=>zie ih l a h n⟩;have b:(match orcF c G f a (hv h) with|some v=>some (v,hv h,n,[])|none=>fnF E (calF E L c G k) L f a (hv h) n)=some y:=b;show ∃x,(match orcF c G f a (hv h) with|some v=>some (v,h,n,[])|none=>fnE E (calO E L c G k) L f a h n)=some x∧rv x=y;cases ho:orcF c G f a (hv h) with
  |some v=>rw [ho] at b;injection b with b;subst b;exact ⟨_,rfl,rfl⟩
  |none=>rw [ho] at b;exact zrr ih f a h n y b
def Orc (X:Rel)(G:HF→Prop)(f:FuncId)(args:List Value)(v:Value):Prop:=
 ∀(k:Nat) (ρ:Ren) (h:Hp) (n:Nat) (w:World),G (hv h)→Sim X ρ h w→HNb (3*n) h→
  (callFunc f (args.map (conc ρ)).toArray).run X.P w=.ok (.enter f (args.map (conc ρ)).toArray) w∧
  CallsIn Fence.wide k X.P f (args.map (conc ρ)).toArray w fun e w'=>∃ρ',e=.returned (conc ρ' v)∧Post X ρ n h w [] ρ' v h n w'
theorem zck {X:Rel}{reg:Array Oper→Bool}(q:EnvOk2 X.E X.P)(L:Nat)(m:∀c,X.ok c↔xo reg c=true)(s:∀f fn c,X.E.fn f=some fn→fn.body=some c→xo reg c=true)
  (p:∀(C:Ctx) ρ0 h0 w0,C.E=X.E→CalOk X C.C→uE X C ρ0 h0 w0 reg){b:FuncId→List Value→Option Value}{G:HF→Prop}(y:∀f args v,b f args=some v→Orc X G f args v):∀d,CalOk X (calO X.E L b G d):=by
 intro d;induction d with
 |zero=>exact ⟨fun f args h n v e j W a=>(by cases a),fun l args h n v e j W a=>(by cases a)⟩
 |succ d ih=>
  refine ⟨fun f args h n v e j W a k ρ w i g o=>?_,fun l args h n v e j W a k ρ w i g o=>nZ q ih m p a k ρ w i g o⟩;have a:(match orcF b G f args (hv h) with|some v=>some (v,h,n,[])|none=>fnE X.E (calO X.E L b G d) L f args h n)=some (v,e,j,W):=a;cases ho:orcF b G f args (hv h) with
  |some u=>
   rw [ho] at a;simp only [C6,BL] at a;obtain ⟨rfl,rfl,rfl,rfl⟩:=a;unfold orcF at ho;split at ho
   ·exact y f args u ho k ρ h n w (by assumption) i g
   cases ho
  |none=>
   rw [ho] at a;exact az q ih m s p a k ρ w i g o
theorem ph {X:Rel}{G:HF→Prop}{C:Cal}(I:CalOk X C){h0 i:Hp}{O:Nat}(q:C.call f args h0 n0=some (v,i,O,[]))(J:∀x∈args,closed x=true)(g:closed v=true)
  (l:∀h:Hp,G (hv h)→∀b x,h0.at b=some x→h.at b=some x)(A:HNb (3*n0) h0):Orc X G f args v:=by
 intro k ρ h n w p s N;have B:Sim X ρ h0 w:=⟨fun b x m=>s.blk b x (l h p b x m),fun b u m y o=>by
  obtain ⟨x,i⟩:=AB.1 m;obtain ⟨P,D⟩:=AB.1 y;exact s.inj b u (by rw [l h p b x i];rfl) (by rw [l h p u P D];rfl) o⟩
 obtain ⟨F,H⟩:=I.call _ _ _ _ _ _ _ _ q k ρ w B A (fun x i=>Nb.closed (J x i));refine ⟨F,H.mono fun e R ⟨S,o,a⟩=>⟨ρ,by rw [o,yw g,yw g],?_⟩⟩;exact (Post.refl s N (Nb.closed g)).grow (fun j M=>a.fr j M fun c K=>by cases K) a.size a.os a.tape a.out
section
variable {h:HF}
def EC (X:CtxF)(c:Code)(s:SV)(Q:Ex→SV→Prop):Prop:=∃e s',xz X c s=some (e,s')∧Q e s'
abbrev sh (X:CtxF)(ops:List Oper)(t:TF)(o:Oper)(d:Tmp)(P:Prop):Prop:=zi ops t o=true∧o.dst=some d∧zv X.nt (some d)=true∧P
def EO (X:CtxF)(ops l:List Oper)(s:SV)(Q:SV→Prop):Prop:=∃s',seqF X ops l s=some s'∧Q s'
def CF (C:CalF)(f:FuncId)(args:List Value)(h:HF)(n:Nat)(Q:Value→HF→Nat→List Nat→Prop):Prop:=∃v h' n' w,C.call f args h n=some (v,h',n',w)∧Q v h' n' w
theorem tf {e:Ex}{s:SV}{R:Ex→SV→Prop}:(∃a b,some (e,s)=some (a,b)∧R a b)↔R e s:=by
 constructor
 ·rintro ⟨a,b,h,c⟩;injection h with h;injection h with h1 h2;subst h1 h2;exact c
 exact fun h=>⟨_,_,rfl,h⟩
section
variable {X:CtxF}{s:SV}{Q:Ex→SV→Prop}
theorem tY {c:Code}{a:Ex→SV→Prop}(h:EC X c s Q)(q:∀e s,Q e s→a e s):EC X c s a:=by
 obtain ⟨e,u,b,p⟩:=h;exact ⟨e,u,b,q _ _ p⟩
theorem yN:EC X .skip s Q↔Q .normal s:=by
 unfold EC xz;constructor
 ·rintro ⟨e,b,h,a⟩;injection h with h;injection h with h1 h2;subst h1 h2;exact a
 exact fun h=>⟨_,_,rfl,h⟩
theorem zoh:EC X (.exit i) s Q↔Q (.exit i) s:=by
 unfold EC xz;constructor
 ·rintro ⟨e,b,h,a⟩;injection h with h;injection h with h1 h2;subst h1 h2;exact a
 exact fun h=>⟨_,_,rfl,h⟩
theorem zra:EC X .ret s Q↔Q .ret s:=by
 unfold EC xz;constructor
 ·rintro ⟨e,b,h,a⟩;injection h with h;injection h with h1 h2;subst h1 h2;exact a
 exact fun h=>⟨_,_,rfl,h⟩
theorem zkh:EC X (.label l) s Q↔Q .normal s:=by
 unfold EC xz;constructor
 ·rintro ⟨e,b,h,a⟩;injection h with h;injection h with h1 h2;subst h1 h2;exact a
 exact fun h=>⟨_,_,rfl,h⟩
theorem zkf {c:Code}:EC X (.scope c) s Q↔EC X c s Q:=Db
def after (X:CtxF)(b:Code)(Q:Ex→SV→Prop):Ex→SV→Prop
 | .normal,s=>EC X b s Q
 |e,s=>Q e s
theorem zY {b:Code}:after X b Q .normal s↔EC X b s Q:=Db
theorem zcs {b:Code}:after X b Q (.exit i) s↔Q (.exit i) s:=Db
theorem zhe {b:Code}:after X b Q .ret s↔Q .ret s:=Db
theorem xJ {a b:Code}:EC X (.seq a b) s Q↔EC X a s (after X b Q):=by
 unfold EC;rw [xz];cases h:xz X a s with
 |none=>simp
 |some r=>
  obtain ⟨e,c⟩:=r;cases e<;>simp only [tf]<;>exact Db
def oG (id:Nat)(Q:Ex→SV→Prop):Ex→SV→Prop
 | .exit j,s=>if j=id then Q .normal s else Q (.exit j) s
 |e,s=>Q e s
theorem gj:oG id Q .normal s↔Q .normal s:=Db
theorem zew:oG id Q .ret s↔Q .ret s:=Db
theorem zbx:oG id Q (.exit j) s↔if j=id then Q .normal s else Q (.exit j) s:=Db
theorem zki {b:Code}:EC X (.block id b) s Q↔EC X b s (oG id Q):=by
 unfold EC;rw [xz];cases h:xz X b s with
 |none=>simp
 |some r=>
  obtain ⟨e,a⟩:=r;cases e with
  |exit j=>
   by_cases hj:j=id
   ·subst hj;simp only [B9,tf,oG,if_true]
   have:AG j id=false:=by
    cases hb:AG j id with
    |false=>rfl
    |true=>exact cA (Aw hb) hj
   simp only [this,tf,oG,cC hj]
  |normal=>simp only [tf,oG]
  |ret=>simp only [tf,oG]
theorem ze {c:Operand}{a b:Code}(h:evF s.t c=kz true):EC X (.cond c a b) s Q↔EC X a s Q:=by
 unfold EC;rw [xz,h]
theorem za {c:Operand}{a b:Code}(h:evF s.t c=kz false):EC X (.cond c a b) s Q↔EC X b s Q:=by
 unfold EC;rw [xz,h]
theorem uD {ops:Array Oper}:EC X (.region id ops false) s Q↔EO X ops.toList ops.toList s (Q .normal):=by
 unfold EC EO;rw [xz];cases h:seqF X ops.toList ops.toList s with
 |none=>simp
 |some r=>simp only [tf];simp
theorem zog {c:Code}(I:Nat→SV→Prop)(q:∀m s,I m s→EC X c s fun e a=>match e with| .normal=>∃p,p<m∧I p a|e=>Q e a)(y:I m s)(b:m<X.L):EC X (.loop c) s Q:=by
 have B:∀(L m:Nat) (s:SV),m<L→I m s→∃e a,eA (xz X c) L s=some (e,a)∧Q e a:=by
  intro L;induction L with
  |zero=>intro m s b;exact cA b (Nat.not_lt_zero _)
  |succ L ih=>
   intro m s b y;obtain ⟨e,D,C,u⟩:=q m s y;unfold eA;rw [C];cases e with
   |normal=>
    obtain ⟨p,F,A⟩:=u;exact ih p D zo A
   |exit i=>exact ⟨_,_,rfl,u⟩
   |ret=>exact ⟨_,_,rfl,u⟩
 exact B X.L m s b y
end
section
variable {X:CtxF}{s:SV}{Q:SV→Prop}{d:Option Tmp}
theorem xQ:EO X ops [] s Q↔Q s:=by
 unfold EO seqF;constructor
 ·rintro ⟨b,h,a⟩;injection h with h;subst h;exact a
 exact fun h=>⟨_,rfl,h⟩
theorem zq9 (b:zi ops s.t o=false)(a:zv X.nt o.dst=true):EO X ops (o::r) s Q↔EO X ops r ⟨putF s.t o.dst undef,s.h,s.n,s.w⟩ Q:=by
 unfold EO;rw [seqF,b];simp only [xS,a,addW]
theorem zq8 (p:zi ops s.t o=true)(b:zv X.nt o.dst=true)(a:cls o.op=0)(c:yA X.E o.op (evF s.t)=some v):
  EO X ops (o::r) s Q↔EO X ops r ⟨putF s.t o.dst v,s.h,s.n,s.w⟩ Q:=by
 unfold EO;rw [seqF,p];simp only [opF,a,c,xS,b,addW]
theorem zoe (B:zi ops s.t o=true)(u:zv X.nt o.dst=true)(a:o.op=.convert t e x)(p:uk X.E t e (evF s.t x)=none)(y:qP X.E t e (evF s.t x) s.h=none)(A:jD X.E t e (evF s.t x)=some v):
  EO X ops (o::r) s Q↔EO X ops r ⟨putF s.t o.dst v,s.h,s.n,s.w⟩ Q:=by
 unfold EO;rw [seqF,B];have q:cls o.op=4:=by rw [a];rfl
 have c:mkE X.E o.op (evF s.t)=none:=by rw [a];exact p
 have b:yA X.E o.op (evF s.t)=some v:=by rw [a];exact A
 simp only [opF,q,c];rw [a] at b ⊢;simp only [y,b,xS,u,addW]
theorem zod {a:Addr}(A:zi ops s.t o=true)(u:zv X.nt o.dst=true)(b:o.op=.load t x)(p:evF s.t x=kS (some a))(y:yr X.E t s.h a=some v):
  EO X ops (o::r) s Q↔EO X ops r ⟨putF s.t o.dst v,s.h,s.n,s.w⟩ Q:=by
 unfold EO;rw [seqF,A];have q:cls o.op=1:=by rw [b];rfl
 have c:mu X.E o.op (evF s.t) s.h=some (v,a.block):=by rw [b];simp only [mu,p,y]
 simp only [opF,q,c,xS,u,addW]
theorem jM {m:Mk}(q:zi ops s.t o=true)(b:zv X.nt o.dst=true)(a:cls o.op=2)(p:mkE X.E o.op (evF s.t)=some m):
  EO X ops (o::r) s Q↔EO X ops r ⟨putF s.t o.dst (m.val s.n),upd s.h (m.name s.n) (some (.row m.c m.e)),s.n+1,s.w⟩ Q:=by
 unfold EO;rw [seqF,q];simp only [opF,a,p,mkF,xS,b,addW]
theorem qN (p:zi ops s.t o=true)(b:zv X.nt o.dst=true)(a:cls o.op=3)(c:effF X.E o.op (evF s.t) s.h s.n=some (.val v h n w)):
  EO X ops (o::r) s Q↔EO X ops r ⟨putF s.t o.dst v,h,n,addW X.n0 w s.w⟩ Q:=by
 unfold EO;rw [seqF,p];simp only [opF,a,mG,c,xS,b]
theorem zof (P:Value→HF→Nat→List Nat→Prop)(A:zi ops s.t o=true)(q:zv X.nt o.dst=true)(p:cls o.op=3)(u:effF X.E o.op (evF s.t) s.h s.n=some (.enter f args))(a:CF X.C f args s.h s.n P)
  (h:∀v h n w,P v h n w→EO X ops r ⟨putF s.t o.dst v,h,n,addW X.n0 w s.w⟩ Q):EO X ops (o::r) s Q:=by
 obtain ⟨v,c,B,D,b,y⟩:=a;have:=h v c B D y;unfold EO at this ⊢;rw [seqF,A];simp only [opF,p,mG,u,b,xS,q];exact this
end
theorem gb:∀(l:List Oper) (acc:List Nat),gP (wM l acc)=gP acc+gP l:=by
 intro l;induction l with
 |nil=>intro acc;simp [wM]
 |cons o l ih=>intro acc;simp [wM,ih];omega
theorem zb6 {X:CtxF}{ops:List Oper}:∀(l:List Oper) (ms:List Nat) (i:Nat) (s:SV) (ld:List (Nat×Nat)),gP l≤gP ms→l.all (fun o=>Er (cls o.op) 2)=true→yi X ops l ms i ⟨s,[],ld,[]⟩=seqF X ops l s:=by
 intro l;induction l with
 |nil=>intro ms i s ld _ _;simp [yi,seqF]
 |cons o l ih=>
  intro ms i s ld q p;cases ms with
  |nil=>simp at q
  |cons m ms=>
   simp only [EP,AT] at p;have a:gP l≤gP ms:=by simpa using q
   have u:cls o.op<2:=Am p.1;unfold yi seqF;simp only;cases hw:zi ops s.t o with
   |false=>
    simp only;congr 1;funext s1;exact ih ms (i+1) s1 ld a p.2
   |true=>
    simp only;unfold pq opF;cases hc:cls o.op with
    |zero=>
     simp only [hc];cases yA X.E o.op (evF s.t) with
     |none=>rfl
     |some v=>
      simp only;congr 1;funext s1;exact ih ms (i+1) s1 ld a p.2
    |succ c=>
     cases c with
     |zero=>
      simp only [hc,wQ];cases mu X.E o.op (evF s.t) s.h with
      |none=>rfl
      |some vb=>
       obtain ⟨v,b⟩:=vb;simp only [wz,ov,A4];congr 1;funext s1;exact ih ms (i+1) s1 _ a p.2
     |succ c=>omega
theorem tB {X:CtxF}{ops:Array Oper}{s:SV}{Q:Ex→SV→Prop}(a:ops.toList.all (fun o=>Er (cls o.op) 2)=true):EC X (.region id ops true) s Q↔EO X ops.toList ops.toList s (Q .normal):=by
 unfold EC EO;rw [xz];rw [zb6 _ _ _ _ _ (by rw [gb];simp) a];cases h:seqF X ops.toList ops.toList s with
 |none=>simp
 |some r=>simp only [tf];simp
end
section
variable {h':HF}
def dr (t:TF):List (Nat×Value)→TF
 |[]=>t
 |(i,v)::r=>upd (dr t r) i v
def wU (t:TF):List (Nat×Value)→Prop
 |[]=>True
 |(i,v)::r=>t i=v∧wU t r
theorem xO {t:TF}:∀{l:List (Nat×Value)},wU t l→dr t l=t:=by
 intro l;induction l with
 |nil=>intro _;rfl
 |cons p l ih=>
  intro h;obtain ⟨i,v⟩:=p;obtain ⟨g,j⟩:=h;show upd (dr t l) i v=t;rw [ih j,upd_self g]
def cut (l:List (Nat×Value))(I:HF→Nat→List Nat→Prop)(Q:Ex→SV→Prop):Ex→SV→Prop
 | .normal,s=>wU s.t l∧I s.h s.n s.w
 |e,s=>Q e s
theorem vv {l:List (Nat×Value)}{I:HF→Nat→List Nat→Prop}{Q:Ex→SV→Prop}{s:SV}(g:wU s.t l)(j:I s.h s.n s.w):cut l I Q .normal s:=⟨g,j⟩
theorem zjt {l:List (Nat×Value)}{I:HF→Nat→List Nat→Prop}{Q:Ex→SV→Prop}{s:SV}:cut l I Q (.exit i) s↔Q (.exit i) s:=Db
theorem zny {l:List (Nat×Value)}{I:HF→Nat→List Nat→Prop}{Q:Ex→SV→Prop}{s:SV}:cut l I Q .ret s↔Q .ret s:=Db
theorem lQ {X:CtxF}{a b:Code}{s:SV}{Q:Ex→SV→Prop}(l:List (Nat×Value))(I:HF→Nat→List Nat→Prop)(u:EC X a s (cut l I (after X b Q)))(A:∀t h n w,I h n w→EC X b ⟨dr t l,h,n,w⟩ Q):EC X a s (after X b Q):=by
 refine tY u fun e g j=>?_;cases e with
 |normal=>
  obtain ⟨p,q⟩:=j;have:=A g.t g.h g.n g.w q;rw [xO p] at this;exact this
 |exit i=>exact j
 |ret=>exact j
def pT {α:Type}(live:α→List (Nat×Value))(I:α→HF→Nat→List Nat→Prop)(μ:α→Nat)(a:α)(Q:Ex→SV→Prop):Ex→SV→Prop
 | .normal,s=>∃a',μ a'<μ a∧wU s.t (live a')∧I a' s.h s.n s.w
 |e,s=>Q e s
theorem goOn {g:α→List (Nat×Value)}{I:α→HF→Nat→List Nat→Prop}{μ:α→Nat}{a:α}{Q:Ex→SV→Prop}{s:SV}(j:α)(p:μ j<μ a)(q:wU s.t (g j))(u:I j s.h s.n s.w):pT g I μ a Q .normal s:=⟨j,p,q,u⟩
theorem eH {g:α→List (Nat×Value)}{I:α→HF→Nat→List Nat→Prop}{μ:α→Nat}{a:α}{Q:Ex→SV→Prop}{s:SV}:pT g I μ a Q (.exit i) s↔Q (.exit i) s:=Db
theorem zb1 {g:α→List (Nat×Value)}{I:α→HF→Nat→List Nat→Prop}{μ:α→Nat}{a:α}{Q:Ex→SV→Prop}{s:SV}:pT g I μ a Q .ret s↔Q .ret s:=Db
theorem z9 {X:CtxF}{c:Code}{t:TF}{h:HF}{n:Nat}{w:List Nat}{Q:Ex→SV→Prop}(g:α→List (Nat×Value))(I:α→HF→Nat→List Nat→Prop)(μ:α→Nat)(a:α)(hl:wU t (g a))(p:I a h n w)(D:μ a<X.L)
  (j:∀a t h n w,I a h n w→EC X c ⟨dr t (g a),h,n,w⟩ (pT g I μ a Q)):EC X (.loop c) ⟨t,h,n,w⟩ Q:=by
 refine zog (I:=fun m s=>∃a,μ a=m∧wU s.t (g a)∧I a s.h s.n s.w) ?_ ⟨a,rfl,hl,p⟩ D;rintro m ⟨t,h,n,w⟩ ⟨a,rfl,hl,p⟩;have:=j a t h n w p;rw [xO hl] at this;refine tY this fun e s q=>?_;cases e with
 |normal=>
  obtain ⟨u,A,B,C⟩:=q;exact ⟨μ u,A,u,rfl,B,C⟩
 |exit i=>exact q
 |ret=>exact q
section
variable {X:CtxF}{t:TF}{h:HF}{Q:SV→Prop}{d:Tmp}
theorem iz (g:zi ops t o=false∧o.dst=some d∧zv X.nt (some d)=true)(k:EO X ops r ⟨upd t d undef,h,n,w⟩ Q):EO X ops (o::r) ⟨t,h,n,w⟩ Q:=by
 obtain ⟨g,j,p⟩:=g;rw [zq9 g (by rw [j];exact p),j];exact k
theorem zF (g:sh X ops t o d (cls o.op=0∧yA X.E o.op (evF t)=some v))(k:EO X ops r ⟨upd t d v,h,n,w⟩ Q):EO X ops (o::r) ⟨t,h,n,w⟩ Q:=by
 obtain ⟨g,j,q,p,s⟩:=g;rw [zq8 g (by rw [j];exact q) p s,j];exact k
theorem ZC {p:BinOp}{ty ty':TypeId}{x y:Operand}{A B v:Value}(c:sh X ops t o d (o.op=.binOp p ty x y ty'∧evF t x=A∧evF t y=B))(e:binE X.E p ty A B=some v)(k:EO X ops r ⟨upd t d v,h,n,w⟩ Q):EO X ops (o::r) ⟨t,h,n,w⟩ Q:=by
 obtain ⟨a,b,c,f,g,j⟩:=c;refine zF ⟨a,b,c,(by rw [f];rfl),?_⟩ k;rw [f];show binE X.E p ty (evF t x) (evF t y)=_;rw [g,j];exact e
theorem st_I {a:Int}(g:sh X ops t o d (cls o.op=0∧yA X.E o.op (evF t)=some (jy ik a)))(k:EO X ops r ⟨upd t d (jy ik a),h,n,w⟩ Q):EO X ops (o::r) ⟨t,h,n,w⟩ Q:=by obtain ⟨g,p,q,j,s⟩:=g;exact zF ⟨g,p,q,j,s⟩ k
theorem st_B {a:Bool}(g:sh X ops t o d (cls o.op=0∧yA X.E o.op (evF t)=some (kz a)))(k:EO X ops r ⟨upd t d (kz a),h,n,w⟩ Q):EO X ops (o::r) ⟨t,h,n,w⟩ Q:=by obtain ⟨g,p,q,j,s⟩:=g;exact zF ⟨g,p,q,j,s⟩ k
theorem st_S {c:Nat}(g:sh X ops t o d (cls o.op=0∧yA X.E o.op (evF t)=some (jx a l c)))(k:EO X ops r ⟨upd t d (jx a l c),h,n,w⟩ Q):EO X ops (o::r) ⟨t,h,n,w⟩ Q:=by obtain ⟨g,p,q,j,s⟩:=g;exact zF ⟨g,p,q,j,s⟩ k
theorem st_P (g:sh X ops t o d (cls o.op=0∧yA X.E o.op (evF t)=some (kS (some ⟨b,off,none⟩))))(k:EO X ops r ⟨upd t d (kS (some ⟨b,off,none⟩)),h,n,w⟩ Q):EO X ops (o::r) ⟨t,h,n,w⟩ Q:=by obtain ⟨g,p,q,j,s⟩:=g;exact zF ⟨g,p,q,j,s⟩ k
theorem st_T {s:ByteArray}(g:sh X ops t o d (cls o.op=0∧yA X.E o.op (evF t)=some (kF s)))(k:EO X ops r ⟨upd t d (kF s),h,n,w⟩ Q):EO X ops (o::r) ⟨t,h,n,w⟩ Q:=by obtain ⟨g,p,q,j,u⟩:=g;exact zF ⟨g,p,q,j,u⟩ k
theorem st_A {cs:Array Value}(g:sh X ops t o d (cls o.op=0∧yA X.E o.op (evF t)=some (.agg cs)))(k:EO X ops r ⟨upd t d (.agg cs),h,n,w⟩ Q):EO X ops (o::r) ⟨t,h,n,w⟩ Q:=by obtain ⟨g,p,q,j,s⟩:=g;exact zF ⟨g,p,q,j,s⟩ k
theorem st_U {cs:Array Value}(g:sh X ops t o d (cls o.op=0∧yA X.E o.op (evF t)=some (.tuple cs)))(k:EO X ops r ⟨upd t d (.tuple cs),h,n,w⟩ Q):EO X ops (o::r) ⟨t,h,n,w⟩ Q:=by obtain ⟨g,p,q,j,s⟩:=g;exact zF ⟨g,p,q,j,s⟩ k
theorem xK {x:Int}(h: -9223372036854775808≤x∧x<9223372036854775808):Ao .i64 x=x:=by
 simp only [Ao,Cp,By];simp;omega
theorem ur {x:Operand}{a b:Int}(j:sh X ops t o d (o.op=.binOp .add ty x y ty'∧evF t x=jy .i64 a∧evF t y=jy .i64 b))(g: -9223372036854775808≤a+b∧a+b<9223372036854775808)
  (k:EO X ops r ⟨upd t d (jy .i64 (a+b)),h,n,w⟩ Q):EO X ops (o::r) ⟨t,h,n,w⟩ Q:=by
 refine ZC j ?_ k;show some (jy .i64 (Ao .i64 (a+b)))=_;rw [xK g]
theorem kn {x:Operand}{a b:Int}(j:sh X ops t o d (o.op=.binOp .sub ty x y ty'∧evF t x=jy .i64 a∧evF t y=jy .i64 b))(g: -9223372036854775808≤a-b∧a-b<9223372036854775808)
  (k:EO X ops r ⟨upd t d (jy .i64 (a-b)),h,n,w⟩ Q):EO X ops (o::r) ⟨t,h,n,w⟩ Q:=by
 refine ZC j ?_ k;show some (jy .i64 (Ao .i64 (a-b)))=_;rw [xK g]
theorem st_mul {x:Operand}{a b:Int}(s:zi ops t o=true)(j:o.dst=some d)(p:zv X.nt (some d)=true)(g:o.op=.binOp .mul ty x y ty')(u:evF t x=jy .i64 a)(A:evF t y=jy .i64 b)(q: -9223372036854775808≤a*b∧a*b<9223372036854775808)
  (k:EO X ops r ⟨upd t d (jy .i64 (a*b)),h,n,w⟩ Q):EO X ops (o::r) ⟨t,h,n,w⟩ Q:=by
 refine zF ⟨s,j,p,(by rw [g];rfl),?_⟩ k;rw [g];show binE X.E .mul ty (evF t x) (evF t y)=_;rw [u,A];show some (jy .i64 (Ao .i64 (a*b)))=_;rw [xK q]
theorem cN {x:Operand}{a b:Int}(j:sh X ops t o d (o.op=.binOp .rem ty x y ty'∧evF t x=jy ik a∧evF t y=jy ik b))(g:b≠0)
  (k:EO X ops r ⟨upd t d (jy ik (a.tmod b)),h,n,w⟩ Q):EO X ops (o::r) ⟨t,h,n,w⟩ Q:=by
 refine ZC j ?_ k;have:ikEq ik ik=true:=by cases ik<;>rfl
 simp only [binE,isSh,this,intE,cC g]
theorem yx (ik:IntKind):ikEq ik ik=true:=by cases ik<;>rfl
theorem qV {x:Operand}{a b:Int}(g:sh X ops t o d (o.op=.binOp .lss ty x y ty'∧evF t x=jy ik a∧evF t y=jy ik b))
  (k:EO X ops r ⟨upd t d (kz (decide (a<b))),h,n,w⟩ Q):EO X ops (o::r) ⟨t,h,n,w⟩ Q:=by
 refine ZC g ?_ k;simp only [binE,isSh,yx,intE,za4]
theorem zdm {x:Operand}{a b:Int}(g:sh X ops t o d (o.op=.binOp .leq ty x y ty'∧evF t x=jy ik a∧evF t y=jy ik b))
  (k:EO X ops r ⟨upd t d (kz (decide (a≤b))),h,n,w⟩ Q):EO X ops (o::r) ⟨t,h,n,w⟩ Q:=by
 refine ZC g ?_ k;simp only [binE,isSh,yx,intE,fd]
theorem zbd {x:Operand}{a b:Int}(g:sh X ops t o d (o.op=.binOp .gtr ty x y ty'∧evF t x=jy ik a∧evF t y=jy ik b))
  (k:EO X ops r ⟨upd t d (kz (decide (b<a))),h,n,w⟩ Q):EO X ops (o::r) ⟨t,h,n,w⟩ Q:=by
 refine ZC g ?_ k;simp only [binE,isSh,yx,intE,za4]
theorem fG {x:Operand}{a b:Int}(g:sh X ops t o d (o.op=.binOp .geq ty x y ty'∧evF t x=jy ik a∧evF t y=jy ik b))
  (k:EO X ops r ⟨upd t d (kz (decide (b≤a))),h,n,w⟩ Q):EO X ops (o::r) ⟨t,h,n,w⟩ Q:=by
 refine ZC g ?_ k;simp only [binE,isSh,yx,intE,fd]
theorem fH {x:Operand}{a b:Int}(g:sh X ops t o d (o.op=.binOp .eql ty x y ty'∧evF t x=jy ik a∧evF t y=jy ik b))
  (k:EO X ops r ⟨upd t d (kz (decide (a=b))),h,n,w⟩ Q):EO X ops (o::r) ⟨t,h,n,w⟩ Q:=by
 refine ZC g ?_ k;simp only [binE,isSh,yx,intE,fe];rfl
theorem iA {x:Operand}{a b:Int}(g:sh X ops t o d (o.op=.binOp .neq ty x y ty'∧evF t x=jy ik a∧evF t y=jy ik b))
  (k:EO X ops r ⟨upd t d (kz (!decide (a=b))),h,n,w⟩ Q):EO X ops (o::r) ⟨t,h,n,w⟩ Q:=by
 refine ZC g ?_ k;simp only [binE,isSh,yx,intE,fe];rfl
theorem wl (b o k:Nat):Addr.add ⟨b,o,none⟩ k=⟨b,o+k,none⟩:=ni _ rfl k
theorem wp {e:TypeId}{x i:Operand}{z:Value}{j:Int}(g:sh X ops t o d (o.op=.indexAddr ty x i∧X.E.und ty=some (.slice e)∧X.E.inf e=some (sz,bt,z)∧evF t x=jx (some ⟨b,off,none⟩) len cap∧evF t i=jy ik j))(A:0≤j∧j<len)(k:EO X ops r ⟨upd t d (kS (some ⟨b,off+j.toNat*sz,none⟩)),h,n,w⟩ Q):EO X ops (o::r) ⟨t,h,n,w⟩ Q:=by
 obtain ⟨g,q,u,p,B,hi,C,s⟩:=g;refine zF ⟨g,q,u,(by rw [p];rfl),?_⟩ k;rw [p];show yF X.E ty (evF t x) (evF t i)=_;rw [C,s];simp only [yF,B,hi,eN A,wl]
theorem zX {E:Env}{h:HF}{x:BF}(s:isAgg E ty=some false)(u:h b=some x)(j:x.cells=some c∧c[off]?=some v):yr E ty h ⟨b,off,none⟩=some v:=by
 obtain ⟨j,p⟩:=j;have g:=(oc.1 p).1;have q:Ai (off+1) (gP c)=true:=sn g;have:(c.drop off).take 1=[v]:=by
  rw [Cb g];simp [(oc.1 p).2]
 simp only [yr,s,uy,u,j,q,B4,A4,this]
theorem zT {E:Env}{h:HF}{z:Value}{x:BF}(g:isAgg E ty=some true∧E.inf ty=some (sz,bt,z))(p:h b=some x)(s:x.cells=some c)(hl:off+sz≤gP c)(q:(c.drop off).take sz=cs):yr E ty h ⟨b,off,none⟩=some (.agg cs.toArray):=by
 obtain ⟨g,hi⟩:=g;have j:Ai (off+sz) (gP c)=true:=sn hl;simp only [yr,g,hi,uy,p,s,j,B4,A4,q,Option.map_some]
theorem zV {x:Operand}{a:Addr}(g:sh X ops t o d (o.op=.load ty x∧evF t x=kS (some a)))(s:yr X.E ty h a=some v)
  (k:EO X ops r ⟨upd t d v,h,n,w⟩ Q):EO X ops (o::r) ⟨t,h,n,w⟩ Q:=by
 obtain ⟨g,j,p,q,u⟩:=g;rw [zod g (by rw [j];exact p) q u s,j];exact k
theorem zl {x:Operand}{y:BF}(g:sh X ops t o d (o.op=.load ty x∧isAgg X.E ty=some false∧evF t x=kS (some ⟨b,off,none⟩)))(q:h b=some y)(j:y.cells=some c∧c[off]?=some v)
  (k:EO X ops r ⟨upd t d v,h,n,w⟩ Q):EO X ops (o::r) ⟨t,h,n,w⟩ Q:=by obtain ⟨g,u,A,B,p,C⟩:=g;obtain ⟨j,s⟩:=j;exact zV ⟨g,u,A,B,C⟩ (zX p q ⟨j,s⟩) k
theorem yd {e:TypeId}{z:Value}(g:sh X ops t o d (o.op=.alloc e∧X.E.inf e=some (sz,bt,z)))
  (k:EO X ops r ⟨upd t d (kS (some ⟨3*n+2,0,none⟩)),upd h (3*n+2) (some (.row (zC z) e)),n+1,w⟩ Q):EO X ops (o::r) ⟨t,h,n,w⟩ Q:=by
 obtain ⟨g,j,s,p,hi⟩:=g;have q:mkE X.E o.op (evF t)=some ⟨zC z,e,false,none⟩:=by rw [p];simp only [mkE,hi]
 rw [jM g (by rw [j];exact s) (by rw [p];rfl) q,j];exact k
theorem vm {e:TypeId}{c:Nat}(g:sh X ops t o d (cls o.op=2∧mkE X.E o.op (evF t)=some ⟨cs,e,false,some (l,c)⟩))
  (k:EO X ops r ⟨upd t d (jx (some ⟨3*n+2,0,none⟩) l c),upd h (3*n+2) (some (.row cs e)),n+1,w⟩ Q):EO X ops (o::r) ⟨t,h,n,w⟩ Q:=by
 obtain ⟨g,j,s,p,q⟩:=g;rw [jM g (by rw [j];exact s) p q,j];exact k
theorem we {e:TypeId}(g:sh X ops t o d (cls o.op=2∧mkE X.E o.op (evF t)=some ⟨cs,e,false,none⟩))
  (k:EO X ops r ⟨upd t d (kS (some ⟨3*n+2,0,none⟩)),upd h (3*n+2) (some (.row cs e)),n+1,w⟩ Q):EO X ops (o::r) ⟨t,h,n,w⟩ Q:=by
 obtain ⟨g,j,s,p,q⟩:=g;rw [jM g (by rw [j];exact s) p q,j];exact k
theorem zdy (m:Nat)(z:Value):rep m [z]=pl m z:=by
 induction m with
 |zero=>rfl
 |succ m ih=>show [z]++rep m [z]=_;rw [ih];rfl
theorem wO {e:TypeId}{l c:Operand}{z:Value}(j:sh X ops t o d (o.op=.makeSlice ty l c∧X.E.und ty=some (.slice e)∧X.E.inf e=some (sz,bt,z)∧evF t l=jy ik (len:Int)∧evF t c=jy ik' (cap:Int)∧gP (zC z)=sz))(g:len≤cap∧cap*bt≤1099511627776∧cap≤1099511627776)
  (k:EO X ops r ⟨upd t d (jx (some ⟨3*n+2,0,none⟩) len cap),upd h (3*n+2) (some (.row (rep cap (zC z)) e)),n+1,w⟩ Q):EO X ops (o::r) ⟨t,h,n,w⟩ Q:=by
 obtain ⟨j,p,G,q,H,hi,D,C,I⟩:=j;have F:mkE X.E o.op (evF t)=some ⟨rep cap (zC z),e,false,some (len,cap)⟩:=by
  rw [q];show re X.E ty (evF t l) (evF t c)=_;rw [D,C];have s:=sn g.1;have u:=sn g.2.1;have A:=sn g.2.2;have B:AG (gP (zC z)) sz=true:=by rw [I];exact B9 _
  show (match X.E.und ty,jy ik (.ofNat len),jy ik' (.ofNat cap) with|some (.slice e),jy _ (.ofNat len),jy _ (.ofNat cap)=>_|_,_,_=>none)=_;simp only [H,hi,s,u,A,B,A4]
 rw [jM j (by rw [p];exact G) (by rw [q];rfl) F,p];exact k
theorem yo {w:List Nat}(h:3*n0≤b):addW n0 [b] w=w:=by
 simp only [addW,sn h]
theorem ry {w:List Nat}(h:b<3*n0):addW n0 [b] w=b::w:=by
 have:Ai (3*n0) b=false:=by
  cases hb:Ai (3*n0) b with
  |false=>rfl
  |true=>have:=Am hb;omega
 simp only [addW,this]
theorem um {h:HF}{e:TypeId}(p:h b=some (.row c e))(hl:off+gP vs≤gP c)(j:ones vs=true):vl h ⟨b,off,none⟩ vs=some (upd h b (some (.row (zw c off vs) e))):=by
 have g:Ai (off+gP vs) (gP c)=true:=sn hl;simp only [vl,p,g,j,B4,A4]
theorem splice_one (c:List Value)(off:Nat)(v:Value)(h:off<gP c):zw c off [v]=c.set off v:=by
 unfold zw;rw [En];simp [h]
theorem xR {E:Env}{a x:Operand}{z:Value}{e:TypeId}(hi:E.inf ty=some (sz,bt,z))(q:evF t a=kS (some ⟨b,off,none⟩))(j:gP (zC (evF t x))=sz)(p:ones (zC (evF t x))=true)(s:h b=some (.row c e))(hl:off+sz≤gP c):
  effF E (.store ty a x) (evF t) h n=some (.val undef (upd h b (some (.row (zw c off (zC (evF t x))) e))) n [b]):=by
 have g:AG (gP (zC (evF t x))) sz=true:=by rw [j];exact B9 sz
 simp only [effF,rC,q,hi,g,um s (by rw [j];exact hl) p]
theorem y0 {a x:Operand}{z:Value}{e:TypeId}(j:zi ops t o=true∧o.dst=none∧o.op=.store ty a x∧X.E.inf ty=some (sz,bt,z)∧evF t a=kS (some ⟨b,off,none⟩)∧zC (evF t x)=cs∧gP cs=sz∧ones cs=true)(A:h b=some (.row c e))(hl:off+sz≤gP c)(g:3*X.n0≤b)
  (k:EO X ops r ⟨t,upd h b (some (.row (zw c off cs) e)),n,w⟩ Q):EO X ops (o::r) ⟨t,h,n,w⟩ Q:=by
 obtain ⟨j,p,q,hi,u,C,B,s⟩:=j;subst C;rw [qN j (by rw [p];rfl) (by rw [q];rfl) (by rw [q];exact xR hi u B s A hl),p];simp only [yo g];exact k
theorem zbg (c cs:List Value)(h:gP cs=gP c):zw c 0 cs=cs:=by
 unfold zw;simp [h]
theorem zK {a x:Operand}{z:Value}(cs:List Value){e:TypeId}(j:zi ops t o=true∧o.dst=none∧o.op=.store ty a x∧X.E.inf ty=some (sz,bt,z)∧evF t a=kS (some ⟨b,0,none⟩)∧zC (evF t x)=cs∧gP cs=sz)(p:ones cs=true)(s:h b=some (.row c e))(hl:gP c=sz)(g:3*X.n0≤b)
  (k:EO X ops r ⟨t,upd h b (some (.row cs e)),n,w⟩ Q):EO X ops (o::r) ⟨t,h,n,w⟩ Q:=by
 obtain ⟨j,u,A,hi,q,C,B⟩:=j;refine y0 ⟨j,u,A,hi,q,C,B,p⟩ s zo g ?_;rw [zbg c cs zo];exact k
theorem iw {a x:Operand}{z:Value}{e:TypeId}(B:zi ops t o=true)(j:o.dst=none)(p:o.op=.store ty a x)(hi:X.E.inf ty=some (sz,bt,z))(s:evF t a=kS (some ⟨b,off,none⟩))(C:zC (evF t x)=cs)(A:gP cs=sz)(q:ones cs=true)(u:h b=some (.row c e))(hl:off+sz≤gP c)(g:b<3*X.n0)
  (k:EO X ops r ⟨t,upd h b (some (.row (zw c off cs) e)),n,b::w⟩ Q):EO X ops (o::r) ⟨t,h,n,w⟩ Q:=by
 subst C;rw [qN B (by rw [j];rfl) (by rw [p];rfl) (by rw [p];exact xR hi s A q u hl),j];simp only [ry g];exact k
theorem zB (P:Value→HF→Nat→List Nat→Prop)(p:sh X ops t o d (cls o.op=3∧effF X.E o.op (evF t) h n=some (.enter f args)))(g:CF X.C f args h n P)
  (k:∀v h' n' j,P v h' n' j→EO X ops r ⟨upd t d v,h',n',addW X.n0 j w⟩ Q):EO X ops (o::r) ⟨t,h,n,w⟩ Q:=by
 obtain ⟨p,q,A,s,u⟩:=p;refine zof P p (by rw [q];exact A) s u g fun v h' n' j B=>?_;rw [q];exact k v h' n' j B
theorem zkm (s:zi ops t o=true)(g:o.dst=some d)(q:zv X.nt (some d)=true)(j:cls o.op=3)(p:effF X.E o.op (evF t) h n=some (.val v h n []))(k:EO X ops r ⟨upd t d v,h,n,w⟩ Q):EO X ops (o::r) ⟨t,h,n,w⟩ Q:=by
 rw [qN s (by rw [g];exact q) j p,g];exact k
theorem vn {e:TypeId}{x:Operand}{a:Int}(g:sh X ops t o d (o.op=.convert ty e x∧uk X.E ty e (evF t x)=none∧qP X.E ty e (evF t x) h=none))(A:jD X.E ty e (evF t x)=some (jy ik a))(k:EO X ops r ⟨upd t d (jy ik a),h,n,w⟩ Q):EO X ops (o::r) ⟨t,h,n,w⟩ Q:=by
 obtain ⟨g,j,q,s,p,u⟩:=g;rw [zoe g (by rw [j];exact q) s p u A,j];exact k
theorem iW (cap sz b off:Nat):offA cap 0 sz ⟨b,off,none⟩=⟨b,off,none⟩:=by
 unfold offA;split
 ·rfl
 rw [wl];simp
theorem sk {e:TypeId}{x:Operand}{z:Value}{j:Int}(m:Nat)(g:sh X ops t o d (o.op=.slice ty x none (some hi) none∧X.E.und ty=some (.slice e)∧X.E.inf e=some (sz,bt,z)∧evF t x=jx (some ⟨b,off,none⟩) len cap∧evF t hi=jy ik j))(C:j=(m:Int))(H:m≤cap)(k:EO X ops r ⟨upd t d (jx (some ⟨b,off,none⟩) m cap),h,n,w⟩ Q):EO X ops (o::r) ⟨t,h,n,w⟩ Q:=by
 obtain ⟨g,A,D,q,F,p,G,B⟩:=g;refine zF ⟨g,A,D,(by rw [q];rfl),?_⟩ k;rw [q];subst C;show yQ X.E ty (evF t x) none (some (evF t hi))=_;rw [G,B];have s:(0:Int)≤(m:Int)∧(m:Int)≤cap:=zo;have u:(gro b&&(Ai 1 0&&Ai cap 0))=false:=by cases gro b<;>rfl
 simp only [yQ,F,p,bnd,eN s,AP,u,iW,C8]
theorem un {e:TypeId}{x lo:Operand}{z:Value}{j:Int}(m:Nat)(p:sh X ops t o d (o.op=.slice ty x (some lo) none none∧X.E.und ty=some (.slice e)∧X.E.inf e=some (sz,bt,z)∧evF t x=jx (some ⟨b,off,none⟩) len cap∧evF t lo=jy ik j∧j=(m:Int)))(K:m≤len)(J:len≤cap)(g:m<cap∨gro b=false∨m=0)
  (k:EO X ops r ⟨upd t d (jx (some ⟨b,if cap=m then off else off+m*sz,none⟩) (len-m) (cap-m)),h,n,w⟩ Q):EO X ops (o::r) ⟨t,h,n,w⟩ Q:=by
 obtain ⟨p,C,G,s,H,q,I,D,F⟩:=p;refine zF ⟨p,C,G,(by rw [s];rfl),?_⟩ k;rw [s];subst F;show yQ X.E ty (evF t x) (some (evF t lo)) none=_;rw [I,D];have u:(0:Int)≤(m:Int)∧(m:Int)≤len:=zo;have A:(gro b&&(Ai 1 m&&Ai cap m))=false:=by
  rcases g with g|g|g
  ·have:Ai cap m=false:=by
    cases hb:Ai cap m with
    |false=>rfl
    |true=>have:=Am hb;omega
   rw [this];simp
  ·rw [g];rfl
  subst g;cases gro b<;>rfl
 have B:offA cap m sz ⟨b,off,none⟩=⟨b,if cap=m then off else off+m*sz,none⟩:=by
  unfold offA;by_cases hc:cap=m
  ·subst hc;rw [B9];simp
  have:AG cap m=false:=by
   cases hb:AG cap m with
   |false=>rfl
   |true=>exact cA (Aw hb) hc
  rw [this,cC hc,wl]
 simp only [yQ,H,q,bnd,eN u,AP,A,B]
theorem xD {sT:TypeId}{w':List Nat}{s x:Operand}(j:sh X ops t o d (o.op=.call {callee:=.builtin .append,args:=#[s,x],argTypes:=#[sT,xT]}∧(match X.E.und xT with|some (.int _)=>false|none=>false|_=>true)=true))(q:xf X.E h n sT (evF t s) (evF t x)=some (.val v h' n' w'))
  (k:EO X ops r ⟨upd t d v,h',n',addW X.n0 w' w⟩ Q):EO X ops (o::r) ⟨t,h,n,w⟩ Q:=by
 obtain ⟨j,hd,hn,p,g⟩:=j;have A:effF X.E o.op (evF t) h n=some (.val v h' n' w'):=by
  rw [p];show appF X.E [sT,xT] [evF t s,evF t x] h n=_;unfold appF;cases hu:X.E.und xT with
  |none=>rw [hu] at g;cases g
  |some u=>
   cases u with
   |int _=>rw [hu] at g;cases g
   |_=>simp only [hu];exact q
 rw [qN j (by rw [hd];exact hn) (by rw [p];rfl) A,hd];exact k
end
def argS (h:HF)(size:Nat)(v:Value)(m:Nat)(cs:List Value):Prop:=lenOf? v=some m∧yn h size m v=some cs
section
variable {h:HF}{sT:TypeId}{x:Value}
theorem append_nil (hu:E.und sT=some (.slice e))(hi:E.inf e=some (size,bytes,z))(G:gP (zC z)=size)(B:1≤size)(C:1≤bytes)(F:argS h size x m new)(H:1≤m)(g:m*bytes≤1099511627776):
  xf E h n sT (jx none 0 0) x=some (.val (jx (some ⟨3*n+1,0,none⟩) m m) (upd h (3*n+1) (some (.row new e))) (n+1) []):=by
 obtain ⟨D,hc⟩:=F;have j:Ai (m*bytes) 1099511627776=true:=sn g;have p:AG (gP (zC z)) size=true:=by rw [G];exact B9 _
 have q:Ai 1 size=true:=sn B;have s:Ai 1 bytes=true:=sn C;have u:Ai m 0=false:=by
  cases g:Ai m 0 with
  |false=>rfl
  |true=>have:=Am g;omega
 have A:yn h size 0 (jx none 0 0)=some []:=rfl;simp only [xf,hu,hi,D,hc,AA,j,p,q,s,u,A,A4,eG,AN]
theorem pB (hu:E.und sT=some (.slice e))(hi:E.inf e=some (size,bytes,z))(M:gP (zC z)=size)(G:1≤size)(H:1≤bytes)(L:argS h size x m new)(N:1≤m)(g:(len+m)*bytes≤1099511627776)
  (I:gro b=true)(p:h b=some (.row c e))(hc:gP c=len*size)(K:ones (c++new)=true)(hn:gP new=m*size):
  xf E h n sT (jx (some ⟨b,0,none⟩) len len) x=some (.val (jx (some ⟨3*n+1,0,none⟩) (len+m) (len+m)) (upd (upd h b none) (3*n+1) (some (.row (c++new) e))) (n+1) [b]):=by
 obtain ⟨J,j⟩:=L;have q:Ai ((len+m)*bytes) 1099511627776=true:=sn g;have s:AG (gP (zC z)) size=true:=by rw [M];exact B9 _
 have u:Ai 1 size=true:=sn G;have A:Ai 1 bytes=true:=sn H;have B:Ai (len+m) len=false:=by
  cases g:Ai (len+m) len with
  |false=>rfl
  |true=>have:=Am g;omega
 have C:yn h size len (jx (some ⟨b,0,none⟩) len len)=some c:=by
  simp only [yn];by_cases h0:len*size=0
  ·rw [eN h0];rw [h0] at hc;rw [xd.1 hc]
  rw [cC h0];have:Ai (0+len*size) (gP c)=true:=sn zo;simp only [uy,p,BF.cells,this,B4,A4,AQ];rw [Aa zo]
 have D:iJ h b (len*size) e=true:=by
  simp only [iJ,p,hc,B9,A4]
 have F:AG (gP (c++new)) ((len+m)*size)=true:=by
  rw [show gP (c++new)=(len+m)*size from by rw [nn,hc,hn,AH]];exact B9 _
 simp only [xf,hu,hi,J,j,q,s,u,A,B,C,D,F,A4,eG,I,K,B9,B4]
end
end
section
variable {X:CtxF}{t:TF}{h:HF}{Q:SV→Prop}{d:Tmp}
theorem zcy (x:Nat):Ao .u8 (x:Int)=((x%256:Nat):Int):=by
 simp only [Ao,Cp,By];simp
theorem nG {a:Nat}(c:sh X ops t o d (o.op=.binOp .sub ty x y ty'∧evF t x=jy .u8 (a:Int)∧evF t y=jy .u8 (b:Int)))(f:b≤a∧a<256)
  (k:EO X ops r ⟨upd t d (jy .u8 ((a-b:Nat):Int)),h,n,w⟩ Q):EO X ops (o::r) ⟨t,h,n,w⟩ Q:=by
 refine ZC c ?_ k;show some (jy .u8 (Ao .u8 ((a:Int)-b)))=_;rw [show (a:Int)-b=((a-b:Nat):Int) from zo,zcy,Ag zo]
theorem qW {a:Nat}{D:TD}(c:sh X ops t o d (o.op=.convert ty e x∧evF t x=jy ik (a:Int)∧X.E.und ty=some D∧X.E.und e=some (.int .u8)))
  (k:EO X ops r ⟨upd t d (jy .u8 ((a%256:Nat):Int)),h,n,w⟩ Q):EO X ops (o::r) ⟨t,h,n,w⟩ Q:=by
 obtain ⟨c,g,j,l,f,m,i⟩:=c;refine vn ⟨c,g,j,l,(by rw [f];rfl),(by rw [f];rfl)⟩ ?_ k;rw [f];simp only [jD,m,i,zcy]
theorem qd (x:Nat):Ao .u32 (x:Int)=((x%4294967296:Nat):Int):=by
 simp only [Ao,Cp,By];simp
theorem yO {a:Nat}(f:sh X ops t o d (o.op=.binOp .add ty x y ty'∧evF t x=jy .u32 (a:Int)∧evF t y=jy .u32 (b:Int)))(c:a+b<4294967296)
  (k:EO X ops r ⟨upd t d (jy .u32 ((a+b:Nat):Int)),h,n,w⟩ Q):EO X ops (o::r) ⟨t,h,n,w⟩ Q:=by
 refine ZC f ?_ k;show some (jy .u32 (Ao .u32 ((a:Int)+b)))=_;rw [show (a:Int)+b=((a+b:Nat):Int) from zo,qd,Ag c]
theorem km {a:Nat}(c:sh X ops t o d (o.op=.binOp .sub ty x y ty'∧evF t x=jy .u32 (a:Int)∧evF t y=jy .u32 (b:Int)))(f:b≤a∧a<4294967296)
  (k:EO X ops r ⟨upd t d (jy .u32 ((a-b:Nat):Int)),h,n,w⟩ Q):EO X ops (o::r) ⟨t,h,n,w⟩ Q:=by
 refine ZC c ?_ k;show some (jy .u32 (Ao .u32 ((a:Int)-b)))=_;rw [show (a:Int)-b=((a-b:Nat):Int) from zo,qd,Ag zo]
theorem xc {a:Nat}(f:sh X ops t o d (o.op=.binOp .mul ty x y ty'∧evF t x=jy .u32 (a:Int)∧evF t y=jy .u32 (b:Int)))(c:a*b<4294967296)
  (k:EO X ops r ⟨upd t d (jy .u32 ((a*b:Nat):Int)),h,n,w⟩ Q):EO X ops (o::r) ⟨t,h,n,w⟩ Q:=by
 refine ZC f ?_ k;show some (jy .u32 (Ao .u32 ((a:Int)*b)))=_;rw [show (a:Int)*b=((a*b:Nat):Int) from by simp,qd,Ag c]
theorem xM {a:Nat}(i:sh X ops t o d (o.op=.binOp .quo ty x y ty'∧evF t x=jy .u32 (a:Int)∧evF t y=jy .u32 (b:Int)))(g:b≠0∧a<4294967296)
  (k:EO X ops r ⟨upd t d (jy .u32 ((a/b:Nat):Int)),h,n,w⟩ Q):EO X ops (o::r) ⟨t,h,n,w⟩ Q:=by
 refine ZC i ?_ k;have f:¬(b:Int)=0:=zo;have e:(a:Int).tdiv b=((a/b:Nat):Int):=rfl;have c:a/b<4294967296:=Ae (Bk _ _) g.2;simp only [binE,isSh,yx,intE,cC f,e,qd,Ag c]
theorem wt {a:Nat}(f:sh X ops t o d (o.op=.binOp .rem ty x y ty'∧evF t x=jy .u32 (a:Int)∧evF t y=jy .u32 (b:Int)))(g:b≠0)
  (k:EO X ops r ⟨upd t d (jy .u32 ((a%b:Nat):Int)),h,n,w⟩ Q):EO X ops (o::r) ⟨t,h,n,w⟩ Q:=by
 refine ZC f ?_ k;have c:¬(b:Int)=0:=zo;have e:(a:Int).tmod b=((a%b:Nat):Int):=rfl;simp only [binE,isSh,yx,intE,cC c,e]
theorem zbb {a s:Nat}(j:zi ops t o=true)(g:o.dst=some d)(i:zv X.nt (some d)=true)(c:o.op=.binOp .shr ty x y ty')(l:evF t x=jy .u32 (a:Int))(m:evF t y=jy ik (s:Int))(p:s≤32)
  (k:EO X ops r ⟨upd t d (jy .u32 ((a/2^s:Nat):Int)),h,n,w⟩ Q):EO X ops (o::r) ⟨t,h,n,w⟩ Q:=by
 refine zF ⟨j,g,i,(by rw [c];rfl),?_⟩ k;rw [c];show binE X.E .shr ty (evF t x) (evF t y)=_;rw [l,m];have f:¬(s:Int)<0:=zo;have e:min (s:Int).toNat (By .u32)=s:=by simp [By];omega
 simp only [binE,isSh,shE,cC f,e];rw [DU _ (Ha (HB zd)),show (2:Int)^s=((2^s:Nat):Int) from by simp];rfl
theorem xC {a:Nat}{D:TD}(c:sh X ops t o d (o.op=.convert ty e x∧evF t x=jy ik (a:Int)∧X.E.und ty=some D∧X.E.und e=some (.int .u32)))
  (k:EO X ops r ⟨upd t d (jy .u32 ((a%4294967296:Nat):Int)),h,n,w⟩ Q):EO X ops (o::r) ⟨t,h,n,w⟩ Q:=by
 obtain ⟨c,g,j,l,f,m,i⟩:=c;refine vn ⟨c,g,j,l,(by rw [f];rfl),(by rw [f];rfl)⟩ ?_ k;rw [f];simp only [jD,m,i,qd]
theorem xW (x:Nat):Ao .u64 (x:Int)=((x%18446744073709551616:Nat):Int):=by
 simp only [Ao,Cp,By];simp
theorem jN (x y:Nat)(a:x<18446744073709551616)(c:y<18446744073709551616):Ao .u64 ((x:Int)-y)=(((x+18446744073709551616-y)%18446744073709551616:Nat):Int):=by
 simp only [Ao,Cp,By];simp;omega
theorem wV {a:Nat}(f:sh X ops t o d (o.op=.binOp .add ty x y ty'∧evF t x=jy .u64 (a:Int)∧evF t y=jy .u64 (b:Int)))(c:a+b<18446744073709551616)
  (k:EO X ops r ⟨upd t d (jy .u64 ((a+b:Nat):Int)),h,n,w⟩ Q):EO X ops (o::r) ⟨t,h,n,w⟩ Q:=by
 refine ZC f ?_ k;show some (jy .u64 (Ao .u64 ((a:Int)+b)))=_;rw [show (a:Int)+b=((a+b:Nat):Int) from zo,xW,Ag c]
theorem nR {a:Nat}(c:sh X ops t o d (o.op=.binOp .add ty x y ty'∧evF t x=jy .u64 (a:Int)∧evF t y=jy .u64 (b:Int)))
  (k:EO X ops r ⟨upd t d (jy .u64 (((a+b)%18446744073709551616:Nat):Int)),h,n,w⟩ Q):EO X ops (o::r) ⟨t,h,n,w⟩ Q:=by
 refine ZC c ?_ k;show some (jy .u64 (Ao .u64 ((a:Int)+b)))=_;rw [show (a:Int)+b=((a+b:Nat):Int) from zo,xW]
theorem xL {a:Nat}(c:sh X ops t o d (o.op=.binOp .sub ty x y ty'∧evF t x=jy .u64 (a:Int)∧evF t y=jy .u64 (b:Int)))(f:b≤a∧a<18446744073709551616)
  (k:EO X ops r ⟨upd t d (jy .u64 ((a-b:Nat):Int)),h,n,w⟩ Q):EO X ops (o::r) ⟨t,h,n,w⟩ Q:=by
 refine ZC c ?_ k;show some (jy .u64 (Ao .u64 ((a:Int)-b)))=_;rw [show (a:Int)-b=((a-b:Nat):Int) from zo,xW,Ag zo]
theorem uL {a:Nat}(f:sh X ops t o d (o.op=.binOp .sub ty x y ty'∧evF t x=jy .u64 (a:Int)∧evF t y=jy .u64 (b:Int)))(c:a<18446744073709551616∧b<18446744073709551616)
  (k:EO X ops r ⟨upd t d (jy .u64 (((a+18446744073709551616-b)%18446744073709551616:Nat):Int)),h,n,w⟩ Q):EO X ops (o::r) ⟨t,h,n,w⟩ Q:=by
 refine ZC f ?_ k;show some (jy .u64 (Ao .u64 ((a:Int)-b)))=_;rw [jN a b c.1 c.2]
theorem wa {a:Nat}(f:sh X ops t o d (o.op=.binOp .mul ty x y ty'∧evF t x=jy .u64 (a:Int)∧evF t y=jy .u64 (b:Int)))(c:a*b<18446744073709551616)
  (k:EO X ops r ⟨upd t d (jy .u64 ((a*b:Nat):Int)),h,n,w⟩ Q):EO X ops (o::r) ⟨t,h,n,w⟩ Q:=by
 refine ZC f ?_ k;show some (jy .u64 (Ao .u64 ((a:Int)*b)))=_;rw [show (a:Int)*b=((a*b:Nat):Int) from by simp,xW,Ag c]
theorem wu {a:Nat}(c:sh X ops t o d (o.op=.binOp .mul ty x y ty'∧evF t x=jy .u64 (a:Int)∧evF t y=jy .u64 (b:Int)))
  (k:EO X ops r ⟨upd t d (jy .u64 (((a*b)%18446744073709551616:Nat):Int)),h,n,w⟩ Q):EO X ops (o::r) ⟨t,h,n,w⟩ Q:=by
 refine ZC c ?_ k;show some (jy .u64 (Ao .u64 ((a:Int)*b)))=_;rw [show (a:Int)*b=((a*b:Nat):Int) from by simp,xW]
theorem uq {a:Nat}(i:sh X ops t o d (o.op=.binOp .quo ty x y ty'∧evF t x=jy .u64 (a:Int)∧evF t y=jy .u64 (b:Int)))(g:b≠0∧a<18446744073709551616)
  (k:EO X ops r ⟨upd t d (jy .u64 ((a/b:Nat):Int)),h,n,w⟩ Q):EO X ops (o::r) ⟨t,h,n,w⟩ Q:=by
 refine ZC i ?_ k;have f:¬(b:Int)=0:=zo;have e:(a:Int).tdiv b=((a/b:Nat):Int):=rfl;have c:a/b<18446744073709551616:=Ae (Bk _ _) g.2;simp only [binE,isSh,yx,intE,cC f,e,xW,Ag c]
theorem qU {a:Nat}(f:sh X ops t o d (o.op=.binOp .rem ty x y ty'∧evF t x=jy .u64 (a:Int)∧evF t y=jy .u64 (b:Int)))(g:b≠0)
  (k:EO X ops r ⟨upd t d (jy .u64 ((a%b:Nat):Int)),h,n,w⟩ Q):EO X ops (o::r) ⟨t,h,n,w⟩ Q:=by
 refine ZC f ?_ k;have c:¬(b:Int)=0:=zo;have e:(a:Int).tmod b=((a%b:Nat):Int):=rfl;simp only [binE,isSh,yx,intE,cC c,e]
theorem tH {a:Nat}(l:sh X ops t o d (o.op=.binOp .or ty x y ty'∧evF t x=jy .u64 (a:Int)∧evF t y=jy .u64 (b:Int)))(g:a<18446744073709551616∧b<18446744073709551616)
  (k:EO X ops r ⟨upd t d (jy .u64 ((a|||b:Nat):Int)),h,n,w⟩ Q):EO X ops (o::r) ⟨t,h,n,w⟩ Q:=by
 refine ZC l ?_ k;have i:(CO 64 (a:Int))=Cq 64 a:=by simp
 have j:(CO 64 (b:Int))=Cq 64 b:=by simp
 have c:(Cq 64 a|||Cq 64 b).toNat=a|||b:=by simp [Ag g.1,Ag g.2]
 have f:a|||b<18446744073709551616:=by
  rw [←c];exact (Cq 64 a|||Cq 64 b).isLt
 show some (jy .u64 (Ao .u64 (((CO 64 (a:Int))|||(CO 64 (b:Int))).toNat:Int)))=_;rw [i,j,c,xW,Ag f]
theorem qX {a:Nat}(l:sh X ops t o d (o.op=.binOp .and ty x y ty'∧evF t x=jy .u64 (a:Int)∧evF t y=jy .u64 (b:Int)))(g:a<18446744073709551616∧b<18446744073709551616)
  (k:EO X ops r ⟨upd t d (jy .u64 ((a&&& b:Nat):Int)),h,n,w⟩ Q):EO X ops (o::r) ⟨t,h,n,w⟩ Q:=by
 refine ZC l ?_ k;have i:(CO 64 (a:Int))=Cq 64 a:=by simp
 have j:(CO 64 (b:Int))=Cq 64 b:=by simp
 have c:(Cq 64 a&&& Cq 64 b).toNat=a&&& b:=by simp [Ag g.1,Ag g.2]
 have f:a&&& b<18446744073709551616:=by
  rw [←c];exact (Cq 64 a&&& Cq 64 b).isLt
 show some (jy .u64 (Ao .u64 (((CO 64 (a:Int))&&& (CO 64 (b:Int))).toNat:Int)))=_;rw [i,j,c,xW,Ag f]
theorem uo {a s:Nat}(f:sh X ops t o d (o.op=.binOp .shl ty x y ty'∧evF t x=jy .u64 (a:Int)∧evF t y=jy ik (s:Int)))(g:s≤64)
  (k:EO X ops r ⟨upd t d (jy .u64 ((a*2^s%18446744073709551616:Nat):Int)),h,n,w⟩ Q):EO X ops (o::r) ⟨t,h,n,w⟩ Q:=by
 refine ZC f ?_ k;have c:¬(s:Int)<0:=zo;have e:min (s:Int).toNat (By .u64)=s:=by simp [By];omega
 simp only [binE,isSh,shE,cC c,e];rw [show (a:Int)*2^s=((a*2^s:Nat):Int) from by simp,xW]
theorem yE {a s:Nat}(f:sh X ops t o d (o.op=.binOp .shr ty x y ty'∧evF t x=jy .u64 (a:Int)∧evF t y=jy ik (s:Int)))(g:s≤64)
  (k:EO X ops r ⟨upd t d (jy .u64 ((a/2^s:Nat):Int)),h,n,w⟩ Q):EO X ops (o::r) ⟨t,h,n,w⟩ Q:=by
 refine ZC f ?_ k;have c:¬(s:Int)<0:=zo;have e:min (s:Int).toNat (By .u64)=s:=by simp [By];omega
 simp only [binE,isSh,shE,cC c,e];rw [DU _ (Ha (HB zd)),show (2:Int)^s=((2^s:Nat):Int) from by simp];rfl
theorem uN {a:Nat}{D:TD}(c:sh X ops t o d (o.op=.convert ty e x∧evF t x=jy ik (a:Int)∧X.E.und ty=some D∧X.E.und e=some (.int .u64)))
  (k:EO X ops r ⟨upd t d (jy .u64 ((a%18446744073709551616:Nat):Int)),h,n,w⟩ Q):EO X ops (o::r) ⟨t,h,n,w⟩ Q:=by
 obtain ⟨c,g,j,l,f,m,i⟩:=c;refine vn ⟨c,g,j,l,(by rw [f];rfl),(by rw [f];rfl)⟩ ?_ k;rw [f];simp only [jD,m,i,xW]
theorem pI {a b:Int}(c:sh X ops t o d (o.op=.binOp .lss ty x y ty'∧evF t x=jy ik a∧evF t y=jy ik b))(j:a<b)
  (k:EO X ops r ⟨upd t d (kz true),h,n,w⟩ Q):EO X ops (o::r) ⟨t,h,n,w⟩ Q:=by
 obtain ⟨c,f,g,i,l,m⟩:=c;refine qV ⟨c,f,g,i,l,m⟩ ?_;rw [bO j];exact k
theorem cP {a b:Int}(c:sh X ops t o d (o.op=.binOp .lss ty x y ty'∧evF t x=jy ik a∧evF t y=jy ik b))(j:¬(a<b))
  (k:EO X ops r ⟨upd t d (kz false),h,n,w⟩ Q):EO X ops (o::r) ⟨t,h,n,w⟩ Q:=by
 obtain ⟨c,f,g,i,l,m⟩:=c;refine qV ⟨c,f,g,i,l,m⟩ ?_;rw [aD j];exact k
theorem pJ {a b:Int}(c:sh X ops t o d (o.op=.binOp .leq ty x y ty'∧evF t x=jy ik a∧evF t y=jy ik b))(j:a≤b)
  (k:EO X ops r ⟨upd t d (kz true),h,n,w⟩ Q):EO X ops (o::r) ⟨t,h,n,w⟩ Q:=by
 obtain ⟨c,f,g,i,l,m⟩:=c;refine zdm ⟨c,f,g,i,l,m⟩ ?_;rw [bO j];exact k
theorem nJ {a b:Int}(c:sh X ops t o d (o.op=.binOp .leq ty x y ty'∧evF t x=jy ik a∧evF t y=jy ik b))(j:¬(a≤b))
  (k:EO X ops r ⟨upd t d (kz false),h,n,w⟩ Q):EO X ops (o::r) ⟨t,h,n,w⟩ Q:=by
 obtain ⟨c,f,g,i,l,m⟩:=c;refine zdm ⟨c,f,g,i,l,m⟩ ?_;rw [aD j];exact k
theorem ko {a b:Int}(c:sh X ops t o d (o.op=.binOp .gtr ty x y ty'∧evF t x=jy ik a∧evF t y=jy ik b))(j:b<a)
  (k:EO X ops r ⟨upd t d (kz true),h,n,w⟩ Q):EO X ops (o::r) ⟨t,h,n,w⟩ Q:=by
 obtain ⟨c,f,g,i,l,m⟩:=c;refine zbd ⟨c,f,g,i,l,m⟩ ?_;rw [bO j];exact k
theorem iB {a b:Int}(c:sh X ops t o d (o.op=.binOp .gtr ty x y ty'∧evF t x=jy ik a∧evF t y=jy ik b))(j:¬(b<a))
  (k:EO X ops r ⟨upd t d (kz false),h,n,w⟩ Q):EO X ops (o::r) ⟨t,h,n,w⟩ Q:=by
 obtain ⟨c,f,g,i,l,m⟩:=c;refine zbd ⟨c,f,g,i,l,m⟩ ?_;rw [aD j];exact k
theorem kq {a b:Int}(c:sh X ops t o d (o.op=.binOp .geq ty x y ty'∧evF t x=jy ik a∧evF t y=jy ik b))(j:b≤a)
  (k:EO X ops r ⟨upd t d (kz true),h,n,w⟩ Q):EO X ops (o::r) ⟨t,h,n,w⟩ Q:=by
 obtain ⟨c,f,g,i,l,m⟩:=c;refine fG ⟨c,f,g,i,l,m⟩ ?_;rw [bO j];exact k
theorem iD {a b:Int}(c:sh X ops t o d (o.op=.binOp .geq ty x y ty'∧evF t x=jy ik a∧evF t y=jy ik b))(j:¬(b≤a))
  (k:EO X ops r ⟨upd t d (kz false),h,n,w⟩ Q):EO X ops (o::r) ⟨t,h,n,w⟩ Q:=by
 obtain ⟨c,f,g,i,l,m⟩:=c;refine fG ⟨c,f,g,i,l,m⟩ ?_;rw [aD j];exact k
theorem cQ {a b:Int}(c:sh X ops t o d (o.op=.binOp .eql ty x y ty'∧evF t x=jy ik a∧evF t y=jy ik b))(j:a=b)
  (k:EO X ops r ⟨upd t d (kz true),h,n,w⟩ Q):EO X ops (o::r) ⟨t,h,n,w⟩ Q:=by
 obtain ⟨c,f,g,i,l,m⟩:=c;refine fH ⟨c,f,g,i,l,m⟩ ?_;rw [bO j];exact k
theorem cT {a b:Int}(c:sh X ops t o d (o.op=.binOp .eql ty x y ty'∧evF t x=jy ik a∧evF t y=jy ik b))(j:¬(a=b))
  (k:EO X ops r ⟨upd t d (kz false),h,n,w⟩ Q):EO X ops (o::r) ⟨t,h,n,w⟩ Q:=by
 obtain ⟨c,f,g,i,l,m⟩:=c;refine fH ⟨c,f,g,i,l,m⟩ ?_;rw [aD j];exact k
theorem k7 {a b:Int}(c:sh X ops t o d (o.op=.binOp .neq ty x y ty'∧evF t x=jy ik a∧evF t y=jy ik b))(j:¬(a=b))
  (k:EO X ops r ⟨upd t d (kz true),h,n,w⟩ Q):EO X ops (o::r) ⟨t,h,n,w⟩ Q:=by
 obtain ⟨c,f,g,i,l,m⟩:=c;refine iA ⟨c,f,g,i,l,m⟩ ?_;simp only [j,decide_true,decide_false,Ed,BJ];exact k
theorem k8 {a b:Int}(c:sh X ops t o d (o.op=.binOp .neq ty x y ty'∧evF t x=jy ik a∧evF t y=jy ik b))(j:a=b)
  (k:EO X ops r ⟨upd t d (kz false),h,n,w⟩ Q):EO X ops (o::r) ⟨t,h,n,w⟩ Q:=by
 obtain ⟨c,f,g,i,l,m⟩:=c;refine iA ⟨c,f,g,i,l,m⟩ ?_;simp only [j,decide_true,decide_false,Ed,BJ];exact k
theorem wx {a:Int}{D:TD}(c:sh X ops t o d (o.op=.convert ty e x∧evF t x=jy ik a∧X.E.und ty=some D∧X.E.und e=some (.int .i64)))(m: -9223372036854775808≤a∧a<9223372036854775808)
  (k:EO X ops r ⟨upd t d (jy .i64 a),h,n,w⟩ Q):EO X ops (o::r) ⟨t,h,n,w⟩ Q:=by
 obtain ⟨c,g,j,l,f,p,i⟩:=c;refine vn ⟨c,g,j,l,(by rw [f];rfl),(by rw [f];rfl)⟩ ?_ k;rw [f];simp only [jD,p,i,xK m]
end
section
variable {h':HF}
def cutx {α:Type}(live:α→List (Nat×Value))(I:α→HF→Nat→List Nat→Prop)(Q:Ex→SV→Prop):Ex→SV→Prop
 | .normal,s=>∃a,wU s.t (live a)∧I a s.h s.n s.w
 |e,s=>Q e s
theorem zO {g:α→List (Nat×Value)}{I:α→HF→Nat→List Nat→Prop}{Q:Ex→SV→Prop}{s:SV}(a:α)(j:wU s.t (g a))(p:I a s.h s.n s.w):cutx g I Q .normal s:=⟨a,j,p⟩
theorem zgn {g:α→List (Nat×Value)}{I:α→HF→Nat→List Nat→Prop}{Q:Ex→SV→Prop}{s:SV}{i:Nat}:cutx g I Q (.exit i) s↔Q (.exit i) s:=Db
theorem zjs {g:α→List (Nat×Value)}{I:α→HF→Nat→List Nat→Prop}{Q:Ex→SV→Prop}{s:SV}:cutx g I Q .ret s↔Q .ret s:=Db
theorem yu {X:CtxF}{a b:Code}{s:SV}{Q:Ex→SV→Prop}(g:α→List (Nat×Value))(I:α→HF→Nat→List Nat→Prop)(A:EC X a s (cutx g I (after X b Q)))(B:∀z t h n w,I z h n w→EC X b ⟨dr t (g z),h,n,w⟩ Q):EC X a s (after X b Q):=by
 refine tY A fun e j p=>?_;cases e with
 |normal=>
  obtain ⟨z,q,u⟩:=p;have:=B z j.t j.h j.n j.w u;rw [xO q] at this;exact this
 |exit i=>exact p
 |ret=>exact p
section
variable {X:CtxF}{t:TF}{h:HF}{Q:SV→Prop}{d:Tmp}
theorem fD {j:Int}(m:Nat)(C:zi ops t o=true)(s:o.dst=some d)(B:zv X.nt (some d)=true)(p:o.op=.slice ty x none (some hi) none)(hu:X.E.und ty=some (.slice e))(g:X.E.inf e=some (sz,bt,z))
  (D:evF t x=jx none len cap)(u:evF t hi=jy ik j)(A:j=(m:Int))(F:m≤cap)(k:EO X ops r ⟨upd t d (jx none m cap),h,n,w⟩ Q):EO X ops (o::r) ⟨t,h,n,w⟩ Q:=by
 refine zF ⟨C,s,B,(by rw [p];rfl),?_⟩ k;rw [p];subst A;show yQ X.E ty (evF t x) none (some (evF t hi))=_;rw [D,u];have q:(0:Int)≤(m:Int)∧(m:Int)≤cap:=zo;simp only [yQ,hu,g,bnd,eN q,AP,C8]
theorem fE {lo:Operand}{j:Int}(m:Nat)(H:zi ops t o=true)(A:o.dst=some d)(F:zv X.nt (some d)=true)(q:o.op=.slice ty x (some lo) none none)(hu:X.E.und ty=some (.slice e))(g:X.E.inf e=some (sz,bt,z))
  (I:evF t x=jx (some ⟨b,off,none⟩) len cap)(C:evF t lo=jy ik j)(D:j=(m:Int))(G:m=len)(p:cap=m)(B:gro b=true)(u:1≤m)
  (k:EO X ops r ⟨upd t d (jx (some ⟨b,off+m*sz,some off⟩) 0 0),h,n,w⟩ Q):EO X ops (o::r) ⟨t,h,n,w⟩ Q:=by
 refine zF ⟨H,A,F,(by rw [q];rfl),?_⟩ k;rw [q];subst D G p;show yQ X.E ty (evF t x) (some (evF t lo)) none=_;rw [I,C];have s:(0:Int)≤(cap:Int)∧(cap:Int)≤(cap:Int):=zo;simp only [yQ,hu,g,bnd,eN s,AP,B,sn u,sn (AK cap),A4,B9,endA]
end
def ED (X:CtxF)(ops l:List Oper)(ms:List Nat)(i:Nat)(d:DF)(Q:SV→Prop):Prop:=∃s',yi X ops l ms i d=some s'∧Q s'
theorem zm {X:CtxF}{ops:Array Oper}{s:SV}{Q:Ex→SV→Prop}(ms:List Nat)(p:wM ops.toList []=ms)(k:ED X ops.toList ops.toList ms 0 ⟨s,[],[],[]⟩ (Q .normal)):EC X (.region id ops true) s Q:=by
 obtain ⟨q,g,j⟩:=k;refine ⟨.normal,q,?_,j⟩;rw [xz];simp only [p,g]
section
variable {X:CtxF}{t:TF}{h:HF}{ef:List (Nat×HF×List Nat)}{Q:SV→Prop}{d:Tmp}
theorem uC {s:SV}:ED X ops [] ms i ⟨s,al,ld,ef⟩ Q↔Q s:=by
 unfold ED;constructor
 ·rintro ⟨j,h,g⟩;unfold yi at h;injection h with h;subst h;exact g
 exact fun h=>⟨s,by unfold yi;rfl,h⟩
theorem zf5 (s:zi ops t o=false)(p:o.dst=some d)(q:zv X.nt (some d)=true)(k:ED X ops r ms (i+1) ⟨⟨upd t d undef,h,n,w⟩,al,ld,ef⟩ Q):ED X ops (o::r) (m::ms) i ⟨⟨t,h,n,w⟩,al,ld,ef⟩ Q:=by
 obtain ⟨u,g,j⟩:=k;refine ⟨u,?_,j⟩;unfold yi;simp only [s,xS,p,q,addW];exact g
theorem yy (D:zi ops t o=true)(A:o.dst=some d)(B:zv X.nt (some d)=true)(g:(cls o.op==0||cls o.op==4)=true)(C:yA X.E o.op (evF t)=some v)(k:ED X ops r ms (i+1) ⟨⟨upd t d v,h,n,w⟩,al,ld,ef⟩ Q):ED X ops (o::r) (m::ms) i ⟨⟨t,h,n,w⟩,al,ld,ef⟩ Q:=by
 obtain ⟨F,s,u⟩:=k;refine ⟨F,?_,u⟩;unfold yi;simp only [D];unfold pq;have j:cls o.op≠1:=fun e=>by rw [e] at g;cases g
 have p:cls o.op≠2:=fun e=>by rw [e] at g;cases g
 have q:cls o.op≠3:=fun e=>by rw [e] at g;cases g
 split
 ·exact cA (by assumption) j
 ·exact cA (by assumption) p
 ·exact cA (by assumption) q
 simp only [C,xS,A,B,addW];exact s
theorem dr_I {a:Int}(g:sh X ops t o d ((cls o.op==0||cls o.op==4)=true∧yA X.E o.op (evF t)=some (jy ik a)))(k:ED X ops r ms (i+1) ⟨⟨upd t d (jy ik a),h,n,w⟩,al,ld,ef⟩ Q):ED X ops (o::r) (m::ms) i ⟨⟨t,h,n,w⟩,al,ld,ef⟩ Q:=by obtain ⟨g,p,q,j,s⟩:=g;exact yy g p q j s k
theorem dr_B {a:Bool}(g:sh X ops t o d ((cls o.op==0||cls o.op==4)=true∧yA X.E o.op (evF t)=some (kz a)))(k:ED X ops r ms (i+1) ⟨⟨upd t d (kz a),h,n,w⟩,al,ld,ef⟩ Q):ED X ops (o::r) (m::ms) i ⟨⟨t,h,n,w⟩,al,ld,ef⟩ Q:=by obtain ⟨g,p,q,j,s⟩:=g;exact yy g p q j s k
theorem dr_S {c:Nat}(g:sh X ops t o d ((cls o.op==0||cls o.op==4)=true))(s:yA X.E o.op (evF t)=some (jx a l c))(k:ED X ops r ms (i+1) ⟨⟨upd t d (jx a l c),h,n,w⟩,al,ld,ef⟩ Q):ED X ops (o::r) (m::ms) i ⟨⟨t,h,n,w⟩,al,ld,ef⟩ Q:=by obtain ⟨g,p,q,j⟩:=g;exact yy g p q j s k
theorem dr_P (g:sh X ops t o d ((cls o.op==0||cls o.op==4)=true∧yA X.E o.op (evF t)=some (kS (some ⟨b,off,none⟩))))(k:ED X ops r ms (i+1) ⟨⟨upd t d (kS (some ⟨b,off,none⟩)),h,n,w⟩,al,ld,ef⟩ Q):ED X ops (o::r) (m::ms) i ⟨⟨t,h,n,w⟩,al,ld,ef⟩ Q:=by obtain ⟨g,p,q,j,s⟩:=g;exact yy g p q j s k
theorem dr_T {s:ByteArray}(g:sh X ops t o d ((cls o.op==0||cls o.op==4)=true∧yA X.E o.op (evF t)=some (kF s)))(k:ED X ops r ms (i+1) ⟨⟨upd t d (kF s),h,n,w⟩,al,ld,ef⟩ Q):ED X ops (o::r) (m::ms) i ⟨⟨t,h,n,w⟩,al,ld,ef⟩ Q:=by obtain ⟨g,p,q,j,u⟩:=g;exact yy g p q j u k
theorem dr_A {cs:Array Value}(g:sh X ops t o d ((cls o.op==0||cls o.op==4)=true∧yA X.E o.op (evF t)=some (.agg cs)))(k:ED X ops r ms (i+1) ⟨⟨upd t d (.agg cs),h,n,w⟩,al,ld,ef⟩ Q):ED X ops (o::r) (m::ms) i ⟨⟨t,h,n,w⟩,al,ld,ef⟩ Q:=by obtain ⟨g,p,q,j,s⟩:=g;exact yy g p q j s k
theorem dr_U {cs:Array Value}(g:sh X ops t o d ((cls o.op==0||cls o.op==4)=true∧yA X.E o.op (evF t)=some (.tuple cs)))(k:ED X ops r ms (i+1) ⟨⟨upd t d (.tuple cs),h,n,w⟩,al,ld,ef⟩ Q):ED X ops (o::r) (m::ms) i ⟨⟨t,h,n,w⟩,al,ld,ef⟩ Q:=by obtain ⟨g,p,q,j,s⟩:=g;exact yy g p q j s k
theorem zgb {a b:Int}(g:sh X ops t o d (o.op=.binOp .add ty x y ty'∧evF t x=jy .i64 a∧evF t y=jy .i64 b))(s: -9223372036854775808≤a+b∧a+b<9223372036854775808)
  (k:ED X ops r ms (i+1) ⟨⟨upd t d (jy .i64 (a+b)),h,n,w⟩,al,ld,ef⟩ Q):ED X ops (o::r) (m::ms) i ⟨⟨t,h,n,w⟩,al,ld,ef⟩ Q:=by
 obtain ⟨g,p,q,j,u,A⟩:=g;refine yy g p q (by rw [j];rfl) ?_ k;rw [j];show binE X.E .add ty (evF t x) (evF t y)=_;rw [u,A];show some (jy .i64 (Ao .i64 (a+b)))=_;rw [xK s]
theorem zf4 {a b:Int}(g:sh X ops t o d (o.op=.binOp .sub ty x y ty'∧evF t x=jy .i64 a∧evF t y=jy .i64 b))(s: -9223372036854775808≤a-b∧a-b<9223372036854775808)
  (k:ED X ops r ms (i+1) ⟨⟨upd t d (jy .i64 (a-b)),h,n,w⟩,al,ld,ef⟩ Q):ED X ops (o::r) (m::ms) i ⟨⟨t,h,n,w⟩,al,ld,ef⟩ Q:=by
 obtain ⟨g,p,q,j,u,A⟩:=g;refine yy g p q (by rw [j];rfl) ?_ k;rw [j];show binE X.E .sub ty (evF t x) (evF t y)=_;rw [u,A];show some (jy .i64 (Ao .i64 (a-b)))=_;rw [xK s]
theorem zZ {u:Nat}{g:HF}(p:sh X ops t o d (o.op=.load ty x∧evF t x=kS (some ⟨b,off,none⟩)∧wQ m ef i h=(u,g)))(I:yr X.E ty g ⟨b,off,none⟩=some v)(j:wz u b ef=true∧ov m b al=true)
  (k:ED X ops r ms (i+1) ⟨⟨upd t d v,h,n,w⟩,al,(i,b)::ld,ef⟩ Q):ED X ops (o::r) (m::ms) i ⟨⟨t,h,n,w⟩,al,ld,ef⟩ Q:=by
 obtain ⟨p,D,G,q,J,H⟩:=p;obtain ⟨j,s⟩:=j;obtain ⟨K,A,B⟩:=k;refine ⟨K,?_,B⟩;unfold yi;simp only [p];unfold pq;have C:cls o.op=1:=by rw [q];rfl
 have F:mu X.E o.op (evF t) g=some (v,b):=by rw [q];simp only [mu,J,I]
 simp only [C,H,F,j,s,A4,xS,D,G,addW];exact A
theorem zf9 {g:Mk}(B:zi ops t o=true)(s:o.dst=some d)(A:zv X.nt (some d)=true)(q:cls o.op=2)(u:mkE X.E o.op (evF t)=some g)
  (k:ED X ops r ms (i+1) ⟨⟨upd t d (g.val n),upd h (g.name n) (some (.row g.c g.e)),n+1,w⟩,(i,g.name n)::al,ld,ef⟩ Q):ED X ops (o::r) (m::ms) i ⟨⟨t,h,n,w⟩,al,ld,ef⟩ Q:=by
 obtain ⟨C,j,p⟩:=k;refine ⟨C,?_,p⟩;unfold yi;simp only [B];unfold pq;simp only [q,u,mkF,xS,s,A,addW];exact j
theorem zf8 {c:Nat}(g:sh X ops t o d (cls o.op=2∧mkE X.E o.op (evF t)=some ⟨cs,e,false,some (l,c)⟩))
  (k:ED X ops r ms (i+1) ⟨⟨upd t d (jx (some ⟨3*n+2,0,none⟩) l c),upd h (3*n+2) (some (.row cs e)),n+1,w⟩,(i,3*n+2)::al,ld,ef⟩ Q):ED X ops (o::r) (m::ms) i ⟨⟨t,h,n,w⟩,al,ld,ef⟩ Q:=by obtain ⟨g,p,s,j,q⟩:=g;exact zf9 g p s j q k
theorem zqj (s:zi ops t o=true)(j:o.dst=some d)(q:zv X.nt (some d)=true)(g:cls o.op=2)(p:mkE X.E o.op (evF t)=some ⟨cs,e,false,none⟩)
  (k:ED X ops r ms (i+1) ⟨⟨upd t d (kS (some ⟨3*n+2,0,none⟩)),upd h (3*n+2) (some (.row cs e)),n+1,w⟩,(i,3*n+2)::al,ld,ef⟩ Q):ED X ops (o::r) (m::ms) i ⟨⟨t,h,n,w⟩,al,ld,ef⟩ Q:=zf9 s j q g p k
theorem mJ (D:zi ops t o=true)(C:zv X.nt o.dst=true)(A:cls o.op=3)(B:effF X.E o.op (evF t) h n=some (.val v h' n' W))(g:xg m ef=true)(j:xU m al=true)(p:yc m W ld=true)(q:n≤n')
  (k:ED X ops r ms (i+1) ⟨⟨putF t o.dst v,h',n',addW X.n0 W w⟩,al,ld,(i,h,W)::ef⟩ Q):ED X ops (o::r) (m::ms) i ⟨⟨t,h,n,w⟩,al,ld,ef⟩ Q:=by
 obtain ⟨F,s,u⟩:=k;refine ⟨F,?_,u⟩;unfold yi;simp only [D];unfold pq;simp only [A,g,j,A4,mG,B,xS,C,p,sn q];exact s
theorem yM (P:Value→HF→Nat→List Nat→Prop)(j:sh X ops t o d (cls o.op=3∧effF X.E o.op (evF t) h n=some (.enter f args)∧xg m ef=true∧xU m al=true))(g:CF X.C f args h n P)
  (k:∀v h' n' W,P v h' n' W→yc m W ld=true∧n≤n'∧ED X ops r ms (i+1) ⟨⟨upd t d v,h',n',addW X.n0 W w⟩,al,ld,(i,h,W)::ef⟩ Q):ED X ops (o::r) (m::ms) i ⟨⟨t,h,n,w⟩,al,ld,ef⟩ Q:=by
 obtain ⟨j,G,I,F,H,q,s⟩:=j;obtain ⟨v,h',n',W,p,J⟩:=g;obtain ⟨u,A,K,B,D⟩:=k v h' n' W J;refine ⟨K,?_,D⟩;unfold yi;simp only [j];unfold pq;simp only [F,q,s,A4,mG,H,p,xS,G,I,u,sn A];exact B
theorem xn {a:Operand}(p:zi ops t o=true∧o.dst=none∧o.op=.store ty a x∧X.E.inf ty=some (sz,bt,z)∧evF t a=kS (some ⟨b,off,none⟩)∧zC (evF t x)=cs∧gP cs=sz)(B:ones cs=true)(D:h b=some (.row c e))(hl:off+sz≤gP c)(j:3*X.n0≤b)(g:xg m ef=true∧xU m al=true∧yc m [b] ld=true)
  (k:ED X ops r ms (i+1) ⟨⟨t,upd h b (some (.row (zw c off cs) e)),n,w⟩,al,ld,(i,h,[b])::ef⟩ Q):ED X ops (o::r) (m::ms) i ⟨⟨t,h,n,w⟩,al,ld,ef⟩ Q:=by
 obtain ⟨p,q,s,hi,C,G,F⟩:=p;obtain ⟨g,u,A⟩:=g;subst G;refine mJ p (by rw [q];rfl) (by rw [s];rfl) (by rw [s];exact xR hi C F B D hl) g u A eT ?_;rw [q,yo j];exact k
theorem mK {s:Operand}(F:zi ops t o=true)(hd:o.dst=some d)(hn:zv X.nt (some d)=true)(j:o.op=.call {callee:=.builtin .append,args:=#[s,x],argTypes:=#[sT,xT]})(g:(match X.E.und xT with|some (.int _)=>false|none=>false|_=>true)=true)(C:xf X.E h n sT (evF t s) (evF t x)=some (.val v h' n' W))(p:xg m ef=true)(q:xU m al=true)(A:yc m W ld=true)(B:n≤n')
  (k:ED X ops r ms (i+1) ⟨⟨upd t d v,h',n',addW X.n0 W w⟩,al,ld,(i,h,W)::ef⟩ Q):ED X ops (o::r) (m::ms) i ⟨⟨t,h,n,w⟩,al,ld,ef⟩ Q:=by
 have D:effF X.E o.op (evF t) h n=some (.val v h' n' W):=by
  rw [j];show appF X.E [sT,xT] [evF t s,evF t x] h n=_;unfold appF;cases hu:X.E.und xT with
  |none=>rw [hu] at g;cases g
  |some u=>
   cases u with
   |int _=>rw [hu] at g;cases g
   |_=>simp only [hu];exact C
 refine mJ F (by rw [hd];exact hn) (by rw [j];rfl) D p q A B ?_;rw [hd];exact k
end
end
section
variable {X:CtxF}{t:TF}{h:HF}{ef:List (Nat×HF×List Nat)}{Q:SV→Prop}{d:Tmp}
theorem zph {a b:Int}(c:o.op=.binOp .lss ty x y ty')(g:evF t x=jy ik a)(j:evF t y=jy ik b):yA E o.op (evF t)=some (kz (decide (a<b))):=by
 rw [c];show binE E .lss ty (evF t x) (evF t y)=_;rw [g,j];simp only [binE,isSh,yx,intE,za4]
theorem zlb {a b:Int}(c:sh X ops t o d (o.op=.binOp .lss ty x y ty'∧evF t x=jy ik a∧evF t y=jy ik b))(p:a<b)
  (k:ED X ops r ms (i+1) ⟨⟨upd t d (kz true),h,n,w⟩,al,ld,ef⟩ Q):ED X ops (o::r) (m::ms) i ⟨⟨t,h,n,w⟩,al,ld,ef⟩ Q:=by obtain ⟨c,j,l,g,q,s⟩:=c;exact yy c j l (by rw [g];rfl) (by rw [zph g q s,bO p]) k
theorem zlc {a b:Int}(c:sh X ops t o d (o.op=.binOp .lss ty x y ty'∧evF t x=jy ik a∧evF t y=jy ik b))(p:¬(a<b))
  (k:ED X ops r ms (i+1) ⟨⟨upd t d (kz false),h,n,w⟩,al,ld,ef⟩ Q):ED X ops (o::r) (m::ms) i ⟨⟨t,h,n,w⟩,al,ld,ef⟩ Q:=by obtain ⟨c,j,l,g,q,s⟩:=c;exact yy c j l (by rw [g];rfl) (by rw [zph g q s,aD p]) k
theorem zpi {a b:Int}(c:o.op=.binOp .leq ty x y ty')(g:evF t x=jy ik a)(j:evF t y=jy ik b):yA E o.op (evF t)=some (kz (decide (a≤b))):=by
 rw [c];show binE E .leq ty (evF t x) (evF t y)=_;rw [g,j];simp only [binE,isSh,yx,intE,fd]
theorem zld {a b:Int}(c:sh X ops t o d (o.op=.binOp .leq ty x y ty'∧evF t x=jy ik a∧evF t y=jy ik b))(p:a≤b)
  (k:ED X ops r ms (i+1) ⟨⟨upd t d (kz true),h,n,w⟩,al,ld,ef⟩ Q):ED X ops (o::r) (m::ms) i ⟨⟨t,h,n,w⟩,al,ld,ef⟩ Q:=by obtain ⟨c,j,l,g,q,s⟩:=c;exact yy c j l (by rw [g];rfl) (by rw [zpi g q s,bO p]) k
theorem zle {a b:Int}(c:sh X ops t o d (o.op=.binOp .leq ty x y ty'∧evF t x=jy ik a∧evF t y=jy ik b))(p:¬(a≤b))
  (k:ED X ops r ms (i+1) ⟨⟨upd t d (kz false),h,n,w⟩,al,ld,ef⟩ Q):ED X ops (o::r) (m::ms) i ⟨⟨t,h,n,w⟩,al,ld,ef⟩ Q:=by obtain ⟨c,j,l,g,q,s⟩:=c;exact yy c j l (by rw [g];rfl) (by rw [zpi g q s,aD p]) k
theorem zpj {a b:Int}(c:o.op=.binOp .gtr ty x y ty')(g:evF t x=jy ik a)(j:evF t y=jy ik b):yA E o.op (evF t)=some (kz (decide (b<a))):=by
 rw [c];show binE E .gtr ty (evF t x) (evF t y)=_;rw [g,j];simp only [binE,isSh,yx,intE,za4]
theorem zlf {a b:Int}(c:sh X ops t o d (o.op=.binOp .gtr ty x y ty'∧evF t x=jy ik a∧evF t y=jy ik b))(p:b<a)
  (k:ED X ops r ms (i+1) ⟨⟨upd t d (kz true),h,n,w⟩,al,ld,ef⟩ Q):ED X ops (o::r) (m::ms) i ⟨⟨t,h,n,w⟩,al,ld,ef⟩ Q:=by obtain ⟨c,j,l,g,q,s⟩:=c;exact yy c j l (by rw [g];rfl) (by rw [zpj g q s,bO p]) k
theorem zlg {a b:Int}(c:sh X ops t o d (o.op=.binOp .gtr ty x y ty'∧evF t x=jy ik a∧evF t y=jy ik b))(p:¬(b<a))
  (k:ED X ops r ms (i+1) ⟨⟨upd t d (kz false),h,n,w⟩,al,ld,ef⟩ Q):ED X ops (o::r) (m::ms) i ⟨⟨t,h,n,w⟩,al,ld,ef⟩ Q:=by obtain ⟨c,j,l,g,q,s⟩:=c;exact yy c j l (by rw [g];rfl) (by rw [zpj g q s,aD p]) k
theorem zpk {a b:Int}(c:o.op=.binOp .geq ty x y ty')(g:evF t x=jy ik a)(j:evF t y=jy ik b):yA E o.op (evF t)=some (kz (decide (b≤a))):=by
 rw [c];show binE E .geq ty (evF t x) (evF t y)=_;rw [g,j];simp only [binE,isSh,yx,intE,fd]
theorem zlh {a b:Int}(c:sh X ops t o d (o.op=.binOp .geq ty x y ty'∧evF t x=jy ik a∧evF t y=jy ik b))(p:b≤a)
  (k:ED X ops r ms (i+1) ⟨⟨upd t d (kz true),h,n,w⟩,al,ld,ef⟩ Q):ED X ops (o::r) (m::ms) i ⟨⟨t,h,n,w⟩,al,ld,ef⟩ Q:=by obtain ⟨c,j,l,g,q,s⟩:=c;exact yy c j l (by rw [g];rfl) (by rw [zpk g q s,bO p]) k
theorem zli {a b:Int}(c:sh X ops t o d (o.op=.binOp .geq ty x y ty'∧evF t x=jy ik a∧evF t y=jy ik b))(p:¬(b≤a))
  (k:ED X ops r ms (i+1) ⟨⟨upd t d (kz false),h,n,w⟩,al,ld,ef⟩ Q):ED X ops (o::r) (m::ms) i ⟨⟨t,h,n,w⟩,al,ld,ef⟩ Q:=by obtain ⟨c,j,l,g,q,s⟩:=c;exact yy c j l (by rw [g];rfl) (by rw [zpk g q s,aD p]) k
theorem zpl {a b:Int}(c:o.op=.binOp .eql ty x y ty')(g:evF t x=jy ik a)(j:evF t y=jy ik b):yA E o.op (evF t)=some (kz (decide (a=b))):=by
 rw [c];show binE E .eql ty (evF t x) (evF t y)=_;rw [g,j];simp only [binE,isSh,yx,intE,fe];rfl
theorem zlj {a b:Int}(c:sh X ops t o d (o.op=.binOp .eql ty x y ty'∧evF t x=jy ik a∧evF t y=jy ik b))(p:a=b)
  (k:ED X ops r ms (i+1) ⟨⟨upd t d (kz true),h,n,w⟩,al,ld,ef⟩ Q):ED X ops (o::r) (m::ms) i ⟨⟨t,h,n,w⟩,al,ld,ef⟩ Q:=by obtain ⟨c,j,l,g,q,s⟩:=c;exact yy c j l (by rw [g];rfl) (by rw [zpl g q s,bO p]) k
theorem zlk {a b:Int}(c:sh X ops t o d (o.op=.binOp .eql ty x y ty'∧evF t x=jy ik a∧evF t y=jy ik b))(p:¬(a=b))
  (k:ED X ops r ms (i+1) ⟨⟨upd t d (kz false),h,n,w⟩,al,ld,ef⟩ Q):ED X ops (o::r) (m::ms) i ⟨⟨t,h,n,w⟩,al,ld,ef⟩ Q:=by obtain ⟨c,j,l,g,q,s⟩:=c;exact yy c j l (by rw [g];rfl) (by rw [zpl g q s,aD p]) k
theorem zku {a b:Int}(c:o.op=.binOp .neq ty x y ty')(g:evF t x=jy ik a)(j:evF t y=jy ik b):yA E o.op (evF t)=some (kz (!decide (a=b))):=by
 rw [c];show binE E .neq ty (evF t x) (evF t y)=_;rw [g,j];simp only [binE,isSh,yx,intE,fe];rfl
theorem zf6 {a b:Int}(c:sh X ops t o d (o.op=.binOp .neq ty x y ty'∧evF t x=jy ik a∧evF t y=jy ik b))(p:¬(a=b))
  (k:ED X ops r ms (i+1) ⟨⟨upd t d (kz true),h,n,w⟩,al,ld,ef⟩ Q):ED X ops (o::r) (m::ms) i ⟨⟨t,h,n,w⟩,al,ld,ef⟩ Q:=by obtain ⟨c,j,l,g,q,s⟩:=c;exact yy c j l (by rw [g];rfl) (by rw [zku g q s];simp [p]) k
theorem zf7 {a b:Int}(c:sh X ops t o d (o.op=.binOp .neq ty x y ty'∧evF t x=jy ik a∧evF t y=jy ik b))(p:a=b)
  (k:ED X ops r ms (i+1) ⟨⟨upd t d (kz false),h,n,w⟩,al,ld,ef⟩ Q):ED X ops (o::r) (m::ms) i ⟨⟨t,h,n,w⟩,al,ld,ef⟩ Q:=by obtain ⟨c,j,l,g,q,s⟩:=c;exact yy c j l (by rw [g];rfl) (by rw [zku g q s];simp [p]) k
theorem zga {c:Operand}{j:Int}(a:sh X ops t o d (o.op=.indexAddr ty x c∧X.E.und ty=some (.slice e)∧X.E.inf e=some (sz,bt,z)∧evF t x=jx (some ⟨b,off,none⟩) len cap∧evF t c=jy ik j))(u:0≤j∧j<len)(k:ED X ops r ms (i+1) ⟨⟨upd t d (kS (some ⟨b,off+j.toNat*sz,none⟩)),h,n,w⟩,al,ld,ef⟩ Q):ED X ops (o::r) (m::ms) i ⟨⟨t,h,n,w⟩,al,ld,ef⟩ Q:=by
 obtain ⟨a,l,s,g,v,p,A,q⟩:=a;refine yy a l s (by rw [g];rfl) ?_ k;rw [g];show yF X.E ty (evF t x) (evF t c)=_;rw [A,q];simp only [yF,v,p,eN u,wl]
theorem rO:∀{l:List (Nat×Nat)},yc m [] l=true:=by
 intro l;induction l with
 |nil=>rfl
 |cons x l ih=>
  obtain ⟨i,b⟩:=x;unfold yc;rw [show memN b []=false from rfl,BJ,DB];exact ih
theorem vt {u:Nat}:∀{l:List (Nat×HF×List Nat)},(∀x∈l,x.2.2=[])→wz u b l=true:=by
 intro l;induction l with
 |nil=>intro _;rfl
 |cons x l ih=>
  intro h;obtain ⟨e,g,W⟩:=x;have a:W=[]:=h (e,g,W) gN;subst a;unfold wz;rw [show memN b []=false from rfl,BJ,DB];exact ih fun y c=>h y (by simp [c])
theorem df (P:Value→Prop)(g:sh X ops t o d (cls o.op=3∧effF X.E o.op (evF t) h n=some (.enter f args)∧xg m ef=true∧xU m al=true))(a:CF X.C f args h n fun v j l w=>j=h∧l=n∧w=[]∧P v)
  (k:∀v,P v→ED X ops r ms (i+1) ⟨⟨upd t d v,h,n,w⟩,al,ld,(i,h,[])::ef⟩ Q):ED X ops (o::r) (m::ms) i ⟨⟨t,h,n,w⟩,al,ld,ef⟩ Q:=by
 obtain ⟨g,u,B,s,A,p,q⟩:=g;refine yM _ ⟨g,u,B,s,A,p,q⟩ a fun v j l W c=>?_;obtain ⟨rfl,rfl,rfl,c⟩:=c;exact ⟨rO,eT,k v c⟩
end
theorem NV:(∀(X:CtxF) (s:SV) (Q:Ex→SV→Prop) (a b:Code),EC X (.seq a b) s Q↔EC X a s (after X b Q))∧(∀(X:CtxF) (s:SV) (Q:Ex→SV→Prop) (i:Nat) (o:Array Oper),EC X (.region i o false) s Q↔EO X o.toList o.toList s (Q .normal))∧(∀(X:CtxF) (s:SV) (Q:Ex→SV→Prop) (i:Nat) (b:Code),EC X (.block i b) s Q↔EC X b s (oG i Q))∧(∀(X:CtxF) (s:SV) (Q:Ex→SV→Prop) (c:Code),EC X (.scope c) s Q↔EC X c s Q)∧(∀(X:CtxF) (s:SV) (Q:Ex→SV→Prop),EC X .skip s Q↔Q .normal s)∧(∀(X:CtxF) (s:SV) (Q:Ex→SV→Prop) (i:Nat),EC X (.exit i) s Q↔Q (.exit i) s)∧(∀(X:CtxF) (s:SV) (Q:Ex→SV→Prop),EC X .ret s Q↔Q .ret s)∧(∀(X:CtxF) (s:SV) (Q:Ex→SV→Prop) (l:Nat),EC X (.label l) s Q↔Q .normal s)∧
  (∀(X:CtxF) (o:List Oper) (s:SV) (Q:SV→Prop),EO X o [] s Q↔Q s)∧(∀(X:CtxF) (o:List Oper) (ms:List Nat) (i:Nat) (s:SV) (al ld:List (Nat×Nat)) (ef:List (Nat×HF×List Nat)) (Q:SV→Prop),ED X o [] ms i ⟨s,al,ld,ef⟩ Q↔Q s)∧(∀(X:CtxF) (s:SV) (Q:Ex→SV→Prop) (b:Code),after X b Q .normal s↔EC X b s Q)∧(∀(X:CtxF) (s:SV) (Q:Ex→SV→Prop) (b:Code) (i:Nat),after X b Q (.exit i) s↔Q (.exit i) s)∧(∀(X:CtxF) (s:SV) (Q:Ex→SV→Prop) (b:Code),after X b Q .ret s↔Q .ret s)∧
  (∀(s:SV) (Q:Ex→SV→Prop) (i:Nat),oG i Q .normal s↔Q .normal s)∧(∀(s:SV) (Q:Ex→SV→Prop) (i j:Nat),oG i Q (.exit j) s↔if j=i then Q .normal s else Q (.exit j) s)∧(∀(s:SV) (Q:Ex→SV→Prop) (i:Nat),oG i Q .ret s↔Q .ret s)∧(∀(α:Type) (l:α→List (Nat×Value)) (I:α→HF→Nat→List Nat→Prop) (μ:α→Nat) (a:α) (Q:Ex→SV→Prop) (s:SV) (i:Nat),pT l I μ a Q (.exit i) s↔Q (.exit i) s)∧(∀(α:Type) (l:α→List (Nat×Value)) (I:α→HF→Nat→List Nat→Prop) (μ:α→Nat) (a:α) (Q:Ex→SV→Prop) (s:SV),pT l I μ a Q .ret s↔Q .ret s)∧
  (∀(l:List (Nat×Value)) (I:HF→Nat→List Nat→Prop) (Q:Ex→SV→Prop) (s:SV) (i:Nat),cut l I Q (.exit i) s↔Q (.exit i) s)∧(∀(l:List (Nat×Value)) (I:HF→Nat→List Nat→Prop) (Q:Ex→SV→Prop) (s:SV),cut l I Q .ret s↔Q .ret s)∧(∀(α:Type) (l:α→List (Nat×Value)) (I:α→HF→Nat→List Nat→Prop) (Q:Ex→SV→Prop) (s:SV) (i:Nat),cutx l I Q (.exit i) s↔Q (.exit i) s)∧(∀(α:Type) (l:α→List (Nat×Value)) (I:α→HF→Nat→List Nat→Prop) (Q:Ex→SV→Prop) (s:SV),cutx l I Q .ret s↔Q .ret s)∧(∀(α:Sort 1) [Decidable True] (a b:α),(if True then a else b)=a)∧(∀(α:Sort 1) [Decidable False] (a b:α),(if False then a else b)=b)∧(∀(a b:Prop) [Decidable True],(if True then a else b)=a)∧(∀(a b:Prop) [Decidable False],(if False then a else b)=b)∧((1:Nat)=0↔False)∧((0:Nat)=1↔False):=
 ⟨fun _ _ _ _ _=>xJ,fun _ _ _ _ _=>uD,fun _ _ _ _ _=>zki,fun _ _ _ _=>zkf,fun _ _ _=>yN,fun _ _ _ _=>zoh,fun _ _ _=>zra,fun _ _ _ _=>zkh,fun _ _ _ _=>xQ,fun _ _ _ _ _ _ _ _ _=>uC,fun _ _ _ _=>zY,fun _ _ _ _ _=>zcs,fun _ _ _ _=>zhe,fun _ _ _=>gj,fun _ _ _ _=>zbx,fun _ _ _=>zew,fun _ _ _ _ _ _ _ _=>eH,fun _ _ _ _ _ _ _=>zb1,fun _ _ _ _ _=>zjt,fun _ _ _ _=>zny,fun _ _ _ _ _ _=>zgn,fun _ _ _ _ _=>zjs,fun _ _ _ _=>eN trivial,fun _ _ _ _=>cC id,fun _ _ _=>eN trivial,fun _ _ _=>cC id,iff_false_intro Nat.one_ne_zero,iff_false_intro Nat.zero_ne_one⟩
theorem zN {p q:Prop}(k:q)(e:q→p:=by intro k;simp only [NV,Nat.reduceEqDiff,reduceCtorEq];exact k):p:=e k
section
variable {X:CtxF}{t:TF}{h:HF}{Q:SV→Prop}{d:Tmp}
theorem zR (k:EO X ops r ⟨upd t d v,h,n,w⟩ Q)(f:EO X ops r ⟨upd t d v,h,n,w⟩ Q→EO X ops (o::r) ⟨t,h,n,w⟩ Q:=by first|exact pI R6 zo|exact cP R6 zo|exact pJ R6 zo|exact nJ R6 zo|exact ko R6 zo|exact iB R6 zo|exact kq R6 zo|exact iD R6 zo|exact cQ R6 zo|exact cT R6 zo|exact k7 R6 zo|exact k8 R6 zo|exact qV R6|exact zdm R6|exact zbd R6|exact fG R6|exact fH R6|exact iA R6|exact ur R6 zo|exact kn R6 zo|exact st_I R5|exact st_B R5|exact st_S R5|exact st_P R5|exact st_T R5|exact st_A R5|exact st_U R5|exact zF (v:=.pointer none) R5|exact iz R3):EO X ops (o::r) ⟨t,h,n,w⟩ Q:=f k
theorem zM (k:EO X ops r ⟨upd t d v,h,n,w⟩ Q)(f:EO X ops r ⟨upd t d v,h,n,w⟩ Q→EO X ops (o::r) ⟨t,h,n,w⟩ Q:=by first|exact st_I R5|exact st_B R5|exact st_S R5|exact st_P R5|exact st_T R5|exact st_A R5|exact st_U R5|exact zF (v:=.pointer none) R5|exact iz R3):EO X ops (o::r) ⟨t,h,n,w⟩ Q:=f k
end
section
variable {X:CtxF}{t:TF}{h:HF}{ef:List (Nat×HF×List Nat)}{Q:SV→Prop}{d:Tmp}
theorem zD (k:ED X ops r ms (i+1) ⟨⟨upd t d v,h,n,w⟩,al,ld,ef⟩ Q)(f:ED X ops r ms (i+1) ⟨⟨upd t d v,h,n,w⟩,al,ld,ef⟩ Q→ED X ops (o::r) (m::ms) i ⟨⟨t,h,n,w⟩,al,ld,ef⟩ Q:=by first|exact zlb R6 zo|exact zlc R6 zo|exact zld R6 zo|exact zle R6 zo|exact zlf R6 zo|exact zlg R6 zo|exact zlh R6 zo|exact zli R6 zo|exact zlj R6 zo|exact zlk R6 zo|exact zf6 R6 zo|exact zf7 R6 zo|exact zgb R6 zo|exact zf4 R6 zo|exact dr_I R5|exact dr_B R5|exact dr_S R4 rfl|exact dr_P R5|exact dr_T R5|exact dr_A R5|exact dr_U R5|exact zf5 rfl rfl rfl):ED X ops (o::r) (m::ms) i ⟨⟨t,h,n,w⟩,al,ld,ef⟩ Q:=f k
theorem zE (k:ED X ops r ms (i+1) ⟨⟨upd t d v,h,n,w⟩,al,ld,ef⟩ Q)(f:ED X ops r ms (i+1) ⟨⟨upd t d v,h,n,w⟩,al,ld,ef⟩ Q→ED X ops (o::r) (m::ms) i ⟨⟨t,h,n,w⟩,al,ld,ef⟩ Q:=by first|exact zgb R6 zo|exact zf4 R6 zo|exact dr_I R5|exact dr_B R5|exact dr_S R4 rfl|exact dr_P R5|exact dr_T R5|exact dr_A R5|exact dr_U R5|exact zf5 rfl rfl rfl):ED X ops (o::r) (m::ms) i ⟨⟨t,h,n,w⟩,al,ld,ef⟩ Q:=f k
end
structure ZH (q:Prop):Prop where go:q
theorem Za {p q:Prop}(k:q)(e:ZH q→p:=by intro k;(repeat refine zR ?_);refine zN ?_;exact k.go):p:=e ⟨k⟩
theorem Zb {p q:Prop}(k:q)(e:ZH q→p:=by intro k;refine zN ?_;refine Za ?_;exact k.go):p:=e ⟨k⟩
theorem Zc {p q:Prop}(k:q)(e:ZH q→p:=by intro k;refine zN ?_;refine zM ?_;exact k.go):p:=e ⟨k⟩
theorem Zd {p q:Prop}(k:q)(e:ZH q→p:=by intro k;refine Za ?_;rw [za rfl];exact k.go):p:=e ⟨k⟩
theorem Ze {p q:Prop}(k:q)(e:ZH q→p:=by intro k;refine Za ?_;rw [ze rfl];exact k.go):p:=e ⟨k⟩
theorem Zf {p q:Prop}(k:q)(e:ZH q→p:=by intro k;refine zN ?_;(repeat refine zR ?_);exact k.go):p:=e ⟨k⟩
theorem Zg {p q:Prop}(k:q)(e:ZH q→p:=by intro k;refine zM ?_;refine zM ?_;exact k.go):p:=e ⟨k⟩
theorem Zi {p q:Prop}(k:q)(e:ZH q→p:=by intro k;refine Zd ?_;refine Zb ?_;exact k.go):p:=e ⟨k⟩
theorem Zj {p q:Prop}(k:q)(e:ZH q→p:=by intro k;refine Zd ?_;refine zN ?_;exact k.go):p:=e ⟨k⟩
theorem Zk {p q:Prop}(k:q)(e:ZH q→p:=by intro k;refine Za ?_;(repeat refine zR ?_);exact k.go):p:=e ⟨k⟩
theorem Zl {p q:Prop}(k:q)(e:ZH q→p:=by intro k;refine Za ?_;refine Za ?_;exact k.go):p:=e ⟨k⟩
theorem Zm {p q:Prop}(k:q)(e:ZH q→p:=by intro k;refine Zc ?_;refine zM ?_;exact k.go):p:=e ⟨k⟩
theorem Zn {p q:Prop}(k:q)(e:ZH q→p:=by intro k;refine Ze ?_;refine Zb ?_;exact k.go):p:=e ⟨k⟩
theorem Zo {p q:Prop}(k:q)(e:ZH q→p:=by intro k;refine zM ?_;refine zN ?_;exact k.go):p:=e ⟨k⟩
theorem Zp {p q:Prop}(k:q)(e:ZH q→p:=by intro k;refine Ze ?_;refine zN ?_;exact k.go):p:=e ⟨k⟩
theorem Zr {p q:Prop}(k:q)(e:ZH q→p:=by intro k;refine Ze ?_;refine Zf ?_;exact k.go):p:=e ⟨k⟩
theorem Zs {p q:Prop}(k:q)(e:ZH q→p:=by intro k;(repeat refine zD ?_);refine zN ?_;exact k.go):p:=e ⟨k⟩
theorem Zu {p q:Prop}(k:q)(e:ZH q→p:=by intro k;refine zM ?_;refine Zc ?_;exact k.go):p:=e ⟨k⟩
theorem Zv {p q:Prop}(k:q)(e:ZH q→p:=by intro k;refine Zb ?_;(repeat refine zR ?_);exact k.go):p:=e ⟨k⟩
theorem Zw {p q:Prop}(k:q)(e:ZH q→p:=by intro k;refine Zd ?_;refine Zf ?_;exact k.go):p:=e ⟨k⟩
theorem Zx {p q:Prop}(k:q)(e:ZH q→p:=by intro k;refine Zb ?_;refine Za ?_;exact k.go):p:=e ⟨k⟩
theorem Zy {p q:Prop}(k:q)(e:ZH q→p:=by intro k;refine Zg ?_;refine zR ?_;exact k.go):p:=e ⟨k⟩
theorem Zz {p q:Prop}(k:q)(e:ZH q→p:=by intro k;refine Ze ?_;refine Zm ?_;exact k.go):p:=e ⟨k⟩
theorem ZA {p q:Prop}(k:q)(e:ZH q→p:=by intro k;rw [za rfl];refine zN ?_;exact k.go):p:=e ⟨k⟩
theorem ZB {p q:Prop}(k:q)(e:ZH q→p:=by intro k;refine Zd ?_;refine Zc ?_;exact k.go):p:=e ⟨k⟩
end Go.GL
namespace Go.Proofs.YtfajmfoofmienaaGreatDoor
open Go Go.GL
variable {i j k n:Nat}{bf:Int}
def qt (a:Nat→Nat→Rat)(k:Nat):Nat→Nat→Rat:=fun i j=>if k<i∧k<j then a i j-a i k/a k k*a k j else a i j
def psdA (n:Nat):Nat→Nat→(Nat→Nat→Rat)→Prop
 |0,_,_=>True
 |m+1,k,a=>0≤a k k∧(a k k=0→∀i,k<i→i<n→a i k=0)∧psdA n m (k+1) (qt a k)
theorem kv {a:Nat→Nat→Rat}(h:a k k=0):qt a k=a:=by
 funext i j;unfold qt;split
 ·rw [h,Bv,Rat.inv_zero,Br,Cg,Rat.sub_eq_add_neg,Rat.neg_zero,A2]
 rfl
def TabR (n:Nat)(T:Nat→Nat→Int)(bf:Int)(s:Nat→Rat)(a:Nat→Nat→Rat)(k:Nat):Prop:=∀i j,k≤i→i<n→k≤j→j<n→(T i j:Rat)=bf*s i*a i j
theorem ub {x:Int}:((x:Rat)=0)↔x=0:=by
 constructor
 ·intro h;have:(x:Rat)=((0:Int):Rat):=h;exact Rat.intCast_inj.1 this
 rintro rfl;rfl
theorem qn {T:Nat→Nat→Int}{s:Nat→Rat}{a:Nat→Nat→Rat}(h:TabR n T bf s a k)(o:0<bf)(m:∀i,0<s i)(d:k≤i)(f:i<n)(g:k≤j)(l:j<n):T i j=0↔a i j=0:=by
 have e:=h i j d f g l;have c:(bf:Rat)≠0:=fun e=>by have:=ub.1 e;omega
 have b:=m i;rw [←ub,e];constructor
 ·intro h;rcases Fg.1 h with h|h
  ·rcases Fg.1 h with h|h
   ·exact cA h c
   rw [h] at b;exact cA b zd
  exact h
 intro h;rw [h,Br]
def yG (T:Nat→Nat→Int)(k:Nat)(bf:Int):Nat→Nat→Int:=fun i j=>if k<i then (T k k*T i j-T i k*T k j).tdiv bf else T i j
theorem zda {T:Nat→Nat→Int}{s:Nat→Rat}{a:Nat→Nat→Rat}(h:TabR n T bf s a k)(J:0<bf)(f:k<n)(H:T k k≠0)(G:∀i j,k<i→i<n→k<j→j<n→bf∣T k k*T i j-T i k*T k j):TabR n (yG T k bf) (T k k) s (qt a k) (k+1):=by
 intro i j C m D o;have d:k<i:=C;have g:k<j:=D;unfold yG qt;rw [eN d,eN ⟨d,g⟩];obtain ⟨q,w⟩:=G i j d m g o;have I:(bf:Rat)≠0:=fun e=>by have:=ub.1 e;omega
 have p:=h k k eT f eT f;have y:=h i j zo m zo o;have A:=h i k zo m eT f;have B:=h k j eT f zo o;have v:(T k k:Rat)≠0:=fun e=>H (ub.1 e);have F:a k k≠0:=fun e=>v (by rw [p,e,Br]);rw [w,Int.mul_tdiv_cancel_left _ zo];have l:((T k k:Rat)*T i j-T i k*T k j)=bf*q:=by
  have:=congrArg (fun x:Int=>(x:Rat)) w;simpa [Rat.intCast_sub,Rat.intCast_mul] using this
 rw [y,A,B] at l;have u:a i k/a k k*a k k=a i k:=Rat.div_mul_cancel F;generalize a i k/a k k=c at u ⊢;generalize (T k k:Rat)=t at*
 generalize (q:Rat)=q at*
 generalize (bf:Rat)=b at*
 have:b*q=b*(t*s i*(a i j-c*a k j)):=by
  rw [←l,p,←u]
  grind
 grind
theorem pK (x:Rat):0≤x*x:=by
 rcases Rat.le_total (a:=0) (b:=x) with h|h
 ·exact FG h h
 have c:0≤ -x:=by grind
 have:=FG c c
 grind
theorem zh3 {x y:Rat}(h:x*x+y*y=0):x=0∧y=0:=by
 have a:=pK x;have b:=pK y;have c:x*x=0:=by grind
 have d:y*y=0:=by grind
 grind
theorem zij (n:Nat):∀(m k:Nat) (a:Nat→Nat→Rat) (c:Rat) (x y:Nat→Rat),0≤c→(∀i j,k≤i→k≤j→a i j=c*(x i*x j+y i*y j))→psdA n m k a:=by
 intro m;induction m with
 |zero=>intro _ _ _ _ _ _ _;trivial
 |succ m ih=>
  intro k a c x y f h;have d:=h k k (AK k) (AK k);have v:=Ew (pK (x k)) (pK (y k));have l:0≤a k k:=by rw [d];exact FG f v
  by_cases b:a k k=0
  ·refine ⟨l,fun _ i g _=>?_,?_⟩
   ·rw [h i k (Nat.le_of_lt g) (AK k)];rw [d] at b;rcases Fg.1 b with b|b
    ·rw [b,Cg]
    obtain ⟨q,s⟩:=zh3 b;rw [q,s,Br,Br,A2,Br]
   rw [kv b];exact ih (k+1) a c x y f fun i j g u=>h i j zo zo
  refine ⟨l,fun e=>cA e b,?_⟩;obtain ⟨p,o⟩:∃p,p=x k*x k+y k*y k:=⟨_,rfl⟩;rw [d,←o] at b;have w:c≠0:=fun e=>b (by rw [e,Cg]);have A:p≠0:=fun e=>b (by rw [e,Br]);refine ih (k+1) (qt a k) (c/p) (fun i=>x i*y k-y i*x k) (fun _=>0) ?_ fun i j g u=>?_
  ·rw [Bv];exact FG f (Rat.le_of_lt (Rat.inv_pos.2 (by grind)))
  show qt a k i j=_;unfold qt;rw [eN ⟨zo,zo⟩,h i j zo zo,h i k zo (AK k),d,h k j (AK k) zo,←o]
  grind
def sm (f:Nat→Rat):Nat→Rat
 |0=>0
 |n+1=>sm f n+f n
theorem ku (f:Nat→Rat)(c:Rat)(n:Nat):sm (fun i=>c*f i) n=c*sm f n:=by
 induction n with
 |zero=>exact (Br _).symm
 |succ n ih=>show sm _ n+c*f n=c*(sm f n+f n);rw [ih];grind
theorem rD (f g:Nat→Rat)(n:Nat):sm (fun i=>f i+g i) n=sm f n+sm g n:=by
 induction n with
 |zero=>exact (A2 _).symm
 |succ n ih=>show sm _ n+(f n+g n)=sm f n+f n+(sm g n+g n);rw [ih];grind
theorem yP {f g:Nat→Rat}(h:∀i,i<n→f i=g i):sm f n=sm g n:=by
 induction n with
 |zero=>rfl
 |succ n ih=>show sm f n+f n=sm g n+g n;rw [ih fun i a=>h i zo,h n zo]
def trS (a b:Nat→Nat→Rat)(n:Nat):Rat:=sm (fun i=>sm (fun j=>a i j*b i j) n) n
theorem zh4 (f:Nat→Rat)(n:Nat):sm (fun i=>sm (fun j=>f i*f j) n) n=sm f n*sm f n:=by
 rw [show (fun i=>sm (fun j=>f i*f j) n)=fun i=>sm f n*f i from funext fun i=>by rw [ku];grind,ku]
theorem zos {a b:Nat→Nat→Rat}{x y u v:Nat→Rat}(c:∀i j,a i j=x i*x j+y i*y j)(d:∀i j,b i j=u i*u j+v i*v j):0≤trS a b n:=by
 have e:trS a b n=sm (fun i=>x i*u i) n*sm (fun i=>x i*u i) n+sm (fun i=>x i*v i) n*sm (fun i=>x i*v i) n+(sm (fun i=>y i*u i) n*sm (fun i=>y i*u i) n+sm (fun i=>y i*v i) n*sm (fun i=>y i*v i) n):=by
  rw [←zh4,←zh4,←zh4,←zh4,←rD,←rD,←rD];refine yP fun i _=>?_;rw [←rD,←rD,←rD];refine yP fun j _=>?_;rw [c,d]
  grind
 rw [e];exact Ew (Ew (pK _) (pK _)) (Ew (pK _) (pK _))
end Go.Proofs.YtfajmfoofmienaaGreatDoor
/- The evaluator's environment for this seat, laid by program (genenv.py) off the dump; and the proof that it fits the program. -/
namespace Go.Proofs.YtfajmfoofmienaaGreatDoor
open Go Go.GL
variable {α:Type}{N m:Nat}
namespace GE
def nthO {α:Type}:List (Option α)→Nat→Option α
 |[],_=>none
 |v::_,0=>v
 |_::r,i+1=>nthO r i
def nthL {α:Type}:List (List α)→Nat→List α
 |[],_=>[]
 |v::_,0=>v
 |_::r,i+1=>nthL r i
def look {α:Type}(l:List (List (Option α)))(t:Nat):Option α:=nthO (nthL l (t/20)) (t%20)
def oT:Option TD:=some .other
def oF:Option (Nat×Nat×Value):=some (1,8,.nilFunc)
def oS:Option (Nat×Nat×Value):=some (1,24,jx none 0 0)
def undT:List (List (Option TD)):=[[oT,oT,some (.int .i64),some (.int .i64),some .bool,some (.int .u8),some (.int .u8),some (.struct [(2,0),(3,1),(4,2),(6,3)]),some (.struct [(2,0),(3,1),(4,2),(6,3)]),some .string,some .string,some .string,some (.int .u64),some (.struct [(9,0),(12,1)]),some (.struct [(9,0),(12,1)]),oT,oT,oT,some (.struct [(17,0)]),some (.struct [(17,0)])],
 [oT,some (.int .i32),some (.slice 3),some (.slice 9),oT,oT,some (.slice 76),some (.slice 81),some (.struct [(22,0),(3,1),(26,2),(23,3),(27,4)]),some (.struct [(22,0),(3,1),(26,2),(23,3),(27,4)]),oT,oT,oT,oT,oT,some (.slice 51),oT,some (.slice 70),some (.int .i64),oT],
 [oT,oT,oT,oT,oT,oT,oT,some (.slice 151),some (.struct [(4,0),(47,1)]),some (.struct [(4,0),(47,1)]),some (.struct [(49,0),(49,2)]),some (.struct [(49,0),(49,2)]),oT,oT,oT,oT,oT,oT,oT,oT],
 [some (.struct [(37,0),(23,1)]),some (.struct [(37,0),(23,1)]),oT,oT,some (.slice 67),oT,oT,some (.slice 35),oT,some (.struct [(3,0),(3,1),(23,2)]),some (.struct [(3,0),(3,1),(23,2)]),oT,oT,oT,oT,some (.struct [(3,0),(3,1),(3,2),(9,3)]),some (.struct [(3,0),(3,1),(3,2),(9,3)]),oT,oT,oT],
 [some (.struct [(26,0),(23,1),(9,2)]),some (.struct [(26,0),(23,1),(9,2)]),oT,oT,oT,some (.struct [(22,0),(3,1)]),some (.struct [(22,0),(3,1)]),oT,oT,oT,oT,oT,oT,oT,oT,oT,oT,oT,oT,oT],
 [oT,oT,oT,oT,oT,oT,oT,oT,oT,oT,oT,oT,oT,oT,oT,oT,oT,oT,oT,oT],
 [oT,oT,oT,oT,some (.int .u64),oT,oT,oT,oT,oT,some (.struct [(2,0),(2,1)]),some (.struct [(2,0),(2,1)]),oT,oT,oT,some (.slice 164),some (.struct [(4,0),(135,1)]),some (.struct [(4,0),(135,1)]),some (.struct [(137,0),(137,2)]),some (.struct [(137,0),(137,2)])],
 [oT,oT,oT,oT,some (.struct [(70,0),(23,3)]),some (.struct [(70,0),(23,3)]),oT,oT,oT,oT,oT,some (.int .u32),oT,oT,some (.slice 5),oT,oT,oT,oT,oT],
 [oT,oT,oT,oT,some (.int .u64),oT,oT,oT,oT,oT,some (.struct [(4,0),(9,1),(9,2)]),some (.struct [(4,0),(9,1),(9,2)]),oT,oT,oT,oT,oT,oT,oT,oT],
 [oT,oT,oT,some (.array 48 5),oT,oT,oT,oT,oT,oT,oT,oT,oT,oT,oT,oT,some (.slice 139),oT,oT,oT],
 [oT,oT,oT,oT,some (.struct [(3,0),(3,1),(203,2),(137,3),(196,5),(196,6)]),some (.struct [(3,0),(3,1),(203,2),(137,3),(196,5),(196,6)]),oT,oT,oT,oT,oT,oT,oT,oT,oT,oT,oT,oT,oT,oT],
 [oT,oT,oT,oT,oT,oT,oT,oT,oT,oT,oT,oT,oT,oT,oT,oT,some (.slice 135),oT,oT,some (.struct [(164,0),(164,1),(164,2),(164,3),(4,4)])],
 [some (.struct [(164,0),(164,1),(164,2),(164,3),(4,4)]),oT,oT,oT,oT,oT,oT,oT,oT,some (.array 24 5),oT,oT,oT,oT,oT,oT,oT,oT,oT,oT],
 [oT,some (.slice 137),oT,some (.struct [(3,0),(261,1),(196,2)]),some (.struct [(3,0),(261,1),(196,2)]),oT,oT,oT,oT,some (.array 20 164),some (.array 65 5),oT,oT,oT,oT,oT,oT,oT,oT,some (.struct [(135,0),(135,1)])],
 [some (.struct [(135,0),(135,1)]),oT,oT,oT,oT,oT,oT,oT,some (.array 64 5),oT,oT,oT,some (.array 20 5),oT,oT,oT,oT,some (.array 32 5),oT,some (.struct [(17,0),(17,1),(17,2),(9,3)])],
 [some (.struct [(17,0),(17,1),(17,2),(9,3)]),some (.array 0 16),some (.struct [(301,0)]),some (.struct [(301,0)]),some (.int .u8),some (.int .u8),oT,oT,some (.int .i32),some (.int .i32),some (.struct [(12,0),(12,1),(151,2),(304,3),(5,4),(5,5),(305,6),(306,7),(307,8),(308,9),(309,10)]),some (.struct [(12,0),(12,1),(151,2),(304,3),(5,4),(5,5),(305,6),(306,7),(307,8),(308,9),(309,10)]),oT,oT,some (.struct [(9,0)]),some (.struct [(9,0)]),oT]]
def infT:List (List (Option (Nat×Nat×Value))):=[[some (1,0,.tuple #[]),oF,some (1,8,jy .i64 0),some (1,8,jy .i64 0),some (1,1,kz false),some (1,1,jy .u8 0),some (1,1,jy .u8 0),some (4,24,.agg #[jy .i64 0,jy .i64 0,kz false,jy .u8 0]),some (4,24,.agg #[jy .i64 0,jy .i64 0,kz false,jy .u8 0]),some (1,16,kF ⟨⟨[]⟩⟩),some (1,16,kF ⟨⟨[]⟩⟩),some (1,16,kF ⟨⟨[]⟩⟩),some (1,8,jy .u64 0),some (2,24,.agg #[kF ⟨⟨[]⟩⟩,jy .u64 0]),some (2,24,.agg #[kF ⟨⟨[]⟩⟩,jy .u64 0]),some (1,8,kS none),some (1,8,kS none),some (1,8,kS none),some (1,8,.agg #[kS none]),some (1,8,.agg #[kS none])],
 [some (1,16,.nilIface),some (1,4,jy .i32 0),oS,oS,some (1,8,kS none),oF,oS,oS,some (5,104,.agg #[jx none 0 0,jy .i64 0,jx none 0 0,jx none 0 0,jx none 0 0]),some (5,104,.agg #[jx none 0 0,jy .i64 0,jx none 0 0,jx none 0 0,jx none 0 0]),oF,oF,oF,oF,oF,oS,oF,oS,some (1,8,jy .i64 0),none],
 [oF,none,oF,none,oF,none,oF,oS,some (2,32,.agg #[kz false,jx none 0 0]),some (2,32,.agg #[kz false,jx none 0 0]),some (4,64,.agg #[kz false,jx none 0 0,kz false,jx none 0 0]),some (4,64,.agg #[kz false,jx none 0 0,kz false,jx none 0 0]),none,oF,oF,oF,oF,oF,oF,oF],
 [some (2,48,.agg #[jx none 0 0,jx none 0 0]),some (2,48,.agg #[jx none 0 0,jx none 0 0]),oF,oF,oS,none,oF,oS,oF,some (3,40,.agg #[jy .i64 0,jy .i64 0,jx none 0 0]),some (3,40,.agg #[jy .i64 0,jy .i64 0,jx none 0 0]),oF,oF,oF,oF,some (4,40,.agg #[jy .i64 0,jy .i64 0,jy .i64 0,kF ⟨⟨[]⟩⟩]),some (4,40,.agg #[jy .i64 0,jy .i64 0,jy .i64 0,kF ⟨⟨[]⟩⟩]),oF,oF,oF],
 [some (3,64,.agg #[jx none 0 0,jx none 0 0,kF ⟨⟨[]⟩⟩]),some (3,64,.agg #[jx none 0 0,jx none 0 0,kF ⟨⟨[]⟩⟩]),oF,oF,oF,some (2,32,.agg #[jx none 0 0,jy .i64 0]),some (2,32,.agg #[jx none 0 0,jy .i64 0]),oF,oF,oF,oF,oF,oF,oF,oF,oF,oF,oF,oF,none],
 [oF,oF,oF,oF,oF,oF,none,oF,oF,oF,oF,oF,oF,oF,oF,oF,oF,oF,oF,oF],
 [oF,oF,oF,oF,some (1,8,jy .u64 0),none,oF,oF,oF,oF,some (2,16,.agg #[jy .i64 0,jy .i64 0]),some (2,16,.agg #[jy .i64 0,jy .i64 0]),none,oF,oF,oS,some (2,32,.agg #[kz false,jx none 0 0]),some (2,32,.agg #[kz false,jx none 0 0]),some (4,64,.agg #[kz false,jx none 0 0,kz false,jx none 0 0]),some (4,64,.agg #[kz false,jx none 0 0,kz false,jx none 0 0])],
 [oF,oF,oF,oF,some (4,64,.agg #[jy .i64 0,jy .i64 0,jx none 0 0,jx none 0 0]),some (4,64,.agg #[jy .i64 0,jy .i64 0,jx none 0 0,jx none 0 0]),none,oF,none,oF,oF,some (1,4,jy .u32 0),none,oF,oS,none,oF,oF,oF,oF],
 [oF,oF,none,oF,some (1,8,jy .u64 0),oF,oF,oF,none,oF,some (3,40,.agg #[kz false,kF ⟨⟨[]⟩⟩,kF ⟨⟨[]⟩⟩]),some (3,40,.agg #[kz false,kF ⟨⟨[]⟩⟩,kF ⟨⟨[]⟩⟩]),none,oF,oF,oF,none,oF,none,oF],
 [oF,oF,oF,some (48,48,.agg ⟨pl 48 (jy .u8 0)⟩),oF,none,oF,oF,none,oF,oF,oF,none,oF,oF,oF,oS,none,oF,some (1,8,kS none)],
 [none,oF,oF,some (1,8,kS none),some (7,104,.agg #[jy .i64 0,jy .i64 0,kS none,kz false,jx none 0 0,jx none 0 0,jx none 0 0]),some (7,104,.agg #[jy .i64 0,jy .i64 0,kS none,kz false,jx none 0 0,jx none 0 0,jx none 0 0]),none,oF,oF,none,oF,none,oF,oF,none,oF,none,oF,oF,oF],
 [oF,oF,oF,oF,oF,none,oF,oF,oF,none,oF,oF,oF,oF,oF,oF,oS,oF,oF,some (5,40,.agg #[jy .u64 0,jy .u64 0,jy .u64 0,jy .u64 0,kz false])],
 [some (5,40,.agg #[jy .u64 0,jy .u64 0,jy .u64 0,jy .u64 0,kz false]),oF,none,oF,oF,oF,oF,oF,oF,some (24,24,.agg ⟨pl 24 (jy .u8 0)⟩),oF,oF,none,oF,oF,oF,oF,oF,oF,oF],
 [oF,oS,oF,some (3,56,.agg #[jy .i64 0,jx none 0 0,jx none 0 0]),some (3,56,.agg #[jy .i64 0,jx none 0 0,jx none 0 0]),oF,oF,oF,oF,some (20,160,.agg ⟨pl 20 (jy .u64 0)⟩),some (65,65,.agg ⟨pl 65 (jy .u8 0)⟩),oF,oF,oF,oF,oF,oF,oF,oF,some (2,48,.agg #[jx none 0 0,jx none 0 0])],
 [some (2,48,.agg #[jx none 0 0,jx none 0 0]),oF,oF,oF,oF,none,oF,oF,some (64,64,.agg ⟨pl 64 (jy .u8 0)⟩),some (1,16,.nilIface),some (1,16,.nilIface),oF,some (20,20,.agg ⟨pl 20 (jy .u8 0)⟩),oF,oF,some (1,8,kS none),oF,some (32,32,.agg ⟨pl 32 (jy .u8 0)⟩),some (1,8,kS none),some (4,40,.agg #[kS none,kS none,kS none,kF ⟨⟨[]⟩⟩])],
 [some (4,40,.agg #[kS none,kS none,kS none,kF ⟨⟨[]⟩⟩]),some (0,0,.agg #[]),some (0,0,.agg #[]),some (0,0,.agg #[]),some (1,1,jy .u8 0),some (1,1,jy .u8 0),oF,some (1,8,kS none),some (1,4,jy .i32 0),some (1,4,jy .i32 0),some (11,48,.agg #[jy .u64 0,jy .u64 0,jy .u32 0,jy .u8 0,jy .u8 0,jy .u8 0,jy .u8 0,.nilFunc,kS none,jy .i32 0,jy .i32 0]),some (11,48,.agg #[jy .u64 0,jy .u64 0,jy .u32 0,jy .u8 0,jy .u8 0,jy .u8 0,jy .u8 0,.nilFunc,kS none,jy .i32 0,jy .i32 0]),oF,oF,some (1,16,.agg #[kF ⟨⟨[]⟩⟩]),some (1,16,.agg #[kF ⟨⟨[]⟩⟩]),some (1,8,kS none)]]
def cmpT:List (List (Option (List (TypeId×Nat)))):=[[],
 [],
 [],
 [],
 [],
 [],
 [],
 [],
 [],
 [],
 [],
 [],
 [],
 [],
 [],
 []]
open Tryz in
noncomputable def fnT:List (List (Option Func)):=[[none,none,none,some f3,some f4,some f5,some f6,some f7,some f8,some f9,some f10,some f11,some f12,some f13,some f14,some f15,some f16,some f17,some f18,some f19],
 [some f20,some f21,some f22,some f23,some f24,some f25,some f26,some f27,some f28,some f29,some f30,some f31,some f32,some f33,some f34,some f35,some f36,some f37,some f38,some f39],
 [some f40,some f41,some f42,some f43,some f44,some f45,some f46,some f47,some f48,some f49,some f50,some f51,some f52,some f53,some f54,some f55,some f56,some f57,some f58,some f59],
 [some f60,some f61,some f62,some f63,some f64,some f65,some f66,some f67,some f68,some f69,some f70,some f71,some f72,some f73,some f74,some f75,some f76,some f77,some f78,some f79],
 [some f80,some f81,some f82,some f83,some f84,some f85,some f86,some f87,some f88,some f89,some f90,some f91,some f92,some f93,some f94,some f95,some f96,some f97,some f98,some f99],
 [some f100,some f101,some f102,some f103,some f104,some f105,some f106,some f107,some f108,some f109,some f110,some f111,some f112,some f113,some f114,some f115,some f116,some f117,some f118,some f119],
 [some f120,some f121,some f122,some f123,some f124,some f125,some f126,some f127,some f128,some f129,some f130,some f131,some f132,some f133,some f134,some f135,some f136,some f137,some f138,some f139],
 [some f140,some f141,some f142,some f143,some f144,some f145,some f146,some f147,some f148,some f149,some f150,some f151,some f152,some f153,some f154,some f155,some f156,some f157,some f158,some f159],
 [some f160,some f161,some f162,some f163,some f164,some f165,some f166,some f167,some f168,some f169,some f170,some f171,some f172,some f173,some f174,some f175,some f176,some f177,some f178,some f179],
 [some f180,some f181,some f182,some f183,some f184,some f185,some f186,some f187,some f188,some f189,some f190,some f191,some f192,some f193,some f194,some f195,some f196,some f197,some f198,some f199],
 [some f200,some f201,some f202,some f203,some f204,some f205,some f206,some f207,some f208,some f209,some f210,some f211,some f212,some f213,none,some f215,some f216,some f217,some f218,some f219],
 [some f220,some f221,none,some f223,some f224,some f225,some f226,some f227,some f228,some f229,some f230,some f231,some f232,some f233,some f234,some f235,some f236,some f237,some f238,some f239],
 [some f240,some f241,some f242,some f243,some f244,some f245,some f246,some f247,some f248,none,none,none,none,none,none,none,none,none,none,none],
 []]
def ext (f:FuncId)(a:List Value):Option Value:=
 match AG f 222 with
 |true=>(match a with
  |[jy .u64 (.ofNat x),jy .u64 (.ofNat y),jy .u64 (.ofNat c)]=>(match Ai c 1 with|true=>some (.tuple ⟨[jy .u64 (.ofNat ((x+y+c)%18446744073709551616)),jy .u64 (.ofNat ((x+y+c)/18446744073709551616))]⟩)|false=>none)
  |_=>none)
 |false=>match AG f 214 with
  |true=>(match a with
   |[jy .u64 (.ofNat x),jy .u64 (.ofNat y),jy .u64 (.ofNat b)]=>(match Ai b 1 with|true=>some (.tuple ⟨[jy .u64 (.ofNat ((x+18446744073709551616-y-b)%18446744073709551616)),jy .u64 (.ofNat (match Ai (y+b) x with|true=>0|false=>1))]⟩)|false=>none)
   |_=>none)
  |false=>none
end GE
noncomputable def env:Env:={und:=GE.look GE.undT,inf:=GE.look GE.infT,fn:=GE.look GE.fnT,ext:=GE.ext,dT:=9,pure:=fun _=>true,cmp:=GE.look GE.cmpT}
namespace GE
theorem zee:∀(l:List (List α)) (i:Nat),gP l≤i→nthL l i=[]:=by
 intro l
 induction l with
 |nil=>intro i _;rfl
 |cons a l ih=>
  intro i b
  cases i with
  |zero=>simp at b
  |succ i=>exact ih i (by simpa using b)
theorem look_lt {l:List (List (Option α))}{t:Nat}{v:α}(b:gP l=m)(h:look l t=some v):t<20*m:=by
 apply Nat.lt_of_not_le
 intro a
 unfold look at h
 rw [zee l (t/20) zo] at h
 cases h
def pick {α β:Type}(a:Option α)(b:Option β):Option β:=match a with|some _=>b|none=>none
theorem at_range {f g:Nat→α}(h:(AC N).map f=(AC N).map g){t:Nat}(a:t<N):f t=g t:=by
 have:=congrArg (fun l=>l[t]?) h
 simpa [a] using this
theorem all_range {f:Nat→Bool}(h:(AC N).all f=true){t:Nat}(a:t<N):f t=true:=by
 rw [Bt] at h
 exact h t (by simpa using a)
theorem undT_len:gP undT=16:=rfl
theorem cmpT_len:gP cmpT=16:=rfl
theorem infT_len:gP infT=16:=rfl
theorem fnT_len:gP fnT=14:=rfl
set_option maxRecDepth 1000000
theorem und_all:(AC 320).map (fun t=>pick (look undT t) ((Tryz.prog.underlying t).map TD.of))=(AC 320).map (look undT):=by kernel_rfl
theorem inf_all:(AC 320).map (fun t=>pick (look infT t) ((Tryz.prog.info? t).bind fun i=>i.zero.map fun z=>(i.size,i.bytes,z)))=(AC 320).map (look infT):=by kernel_rfl
noncomputable def cmpP (t:Nat):Option (List (TypeId×Nat)):=
 match Tryz.prog.underlying t with
 |some (.struct F)=>(match F.toList.all (fun f=> !(f.name== "_"))&&(!Tryz.prog.stoodInHeld t&& !Tryz.prog.eqGuardType Tryz.prog.depth t) with|true=>some (F.toList.map fun f=>(f.type,f.offset))|false=>none)
 |_=>none
theorem cmp_all:(AC 320).map (fun t=>pick (look cmpT t) (cmpP t))=(AC 320).map (look cmpT):=by kernel_rfl
theorem inf_closed:(AC 320).all (fun t=>match look infT t with|some (_,_,z)=>closed z|none=>true)=true:=by kernel_rfl
theorem fld_all:(AC 320).all (fun t=>match look undT t with|some (.struct fs)=>fs.all (fun f=>(look infT f.1).isSome)|_=>true)=true:=by kernel_rfl
theorem fn_all:(AC 280).map (fun f=>pick (look fnT f) (Tryz.prog.funcs[f]?))=(AC 280).map (look fnT):=by kernel_rfl
theorem fn_body:(AC 280).all (fun f=>match look fnT f with|some fn=>fn.body.isSome&& !(fn.name== "runtime.NumGoroutine")|none=>true)=true:=by kernel_rfl
theorem fn_code:(AC 280).all (fun f=>match look fnT f with|some fn=>(match fn.body with|some c=>xo regOk c|none=>true)|none=>true)=true:=by kernel_rfl
theorem mixed:Tryz.prog.follows .mixedOrders=true:=by kernel_rfl
theorem zj9 (x y:Nat)(w:World):(callFunc 222 #[jy .u64 (.ofNat x),jy .u64 (.ofNat y),jy .u64 (.ofNat 0)]).run Tryz.prog w=.ok (.value (.tuple ⟨[jy .u64 (.ofNat ((x+y+0)%18446744073709551616)),jy .u64 (.ofNat ((x+y+0)/18446744073709551616))]⟩)) w:=by kernel_rfl
theorem zj8 (x y:Nat)(w:World):(callFunc 222 #[jy .u64 (.ofNat x),jy .u64 (.ofNat y),jy .u64 (.ofNat 1)]).run Tryz.prog w=.ok (.value (.tuple ⟨[jy .u64 (.ofNat ((x+y+1)%18446744073709551616)),jy .u64 (.ofNat ((x+y+1)/18446744073709551616))]⟩)) w:=by kernel_rfl
theorem zoa (x y c:Nat)(b:c≤1)(w:World):(callFunc 222 #[jy .u64 (.ofNat x),jy .u64 (.ofNat y),jy .u64 (.ofNat c)]).run Tryz.prog w=.ok (.value (.tuple ⟨[jy .u64 (.ofNat ((x+y+c)%18446744073709551616)),jy .u64 (.ofNat ((x+y+c)/18446744073709551616))]⟩)) w:=by
 have a:c=0∨c=1:=zo
 rcases a with rfl|rfl
 ·exact zj9 x y w
 exact zj8 x y w
theorem zhy (x y:Nat)(w:World):(callFunc 214 #[jy .u64 (.ofNat x),jy .u64 (.ofNat y),jy .u64 (.ofNat 0)]).run Tryz.prog w=.ok (.value (.tuple ⟨[jy .u64 (.ofNat ((x+18446744073709551616-y-0)%18446744073709551616)),jy .u64 (.ofNat (if x<y+0 then 1 else 0))]⟩)) w:=by kernel_rfl
theorem zhx (x y:Nat)(w:World):(callFunc 214 #[jy .u64 (.ofNat x),jy .u64 (.ofNat y),jy .u64 (.ofNat 1)]).run Tryz.prog w=.ok (.value (.tuple ⟨[jy .u64 (.ofNat ((x+18446744073709551616-y-1)%18446744073709551616)),jy .u64 (.ofNat (if x<y+1 then 1 else 0))]⟩)) w:=by kernel_rfl
theorem zl3 (x y c:Nat)(b:c≤1)(w:World):(callFunc 214 #[jy .u64 (.ofNat x),jy .u64 (.ofNat y),jy .u64 (.ofNat c)]).run Tryz.prog w=.ok (.value (.tuple ⟨[jy .u64 (.ofNat ((x+18446744073709551616-y-c)%18446744073709551616)),jy .u64 (.ofNat (match Ai (y+c) x with|true=>0|false=>1))]⟩)) w:=by
 have a:c=0∨c=1:=zo
 have e:(match Ai (y+c) x with|true=>0|false=>1)=if x<y+c then 1 else 0:=by
  by_cases h:x<y+c
  ·have:Ai (y+c) x=false:=by
    cases hb:Ai (y+c) x with
    |false=>rfl
    |true=>have:=Am hb;omega
   rw [this,eN h]
  rw [sn zo,cC h]
 rw [e]
 rcases a with rfl|rfl
 ·exact zhy x y w
 exact zhx x y w
theorem ext_ok (f:FuncId)(a:List Value)(v:Value)(h:ext f a=some v):(∀x∈a,closed x=true)∧closed v=true∧∀w,(callFunc f a.toArray).run Tryz.prog w=.ok (.value v) w:=by
 unfold ext at h
 split at h
 ·rename_i b
  have b:=Aw b
  subst b
  split at h
  ·rename_i x y c
   split at h
   ·rename_i hc
    injection h with h
    subst h
    exact ⟨fun z d=>by simp at d;rcases d with rfl|rfl|rfl<;>rfl,rfl,fun w=>zoa x y c (Am hc) w⟩
   cases h
  cases h
 split at h
 ·rename_i b
  have b:=Aw b
  subst b
  split at h
  ·rename_i x y c
   split at h
   ·rename_i hc
    injection h with h
    subst h
    exact ⟨fun z d=>by simp at d;rcases d with rfl|rfl|rfl<;>rfl,rfl,fun w=>zl3 x y c (Am hc) w⟩
   cases h
  cases h
 cases h
end GE
theorem aJ:EnvOk2 env Tryz.prog where
 und t d h:=by
  have hlt:=GE.look_lt GE.undT_len h
  have e:=GE.at_range GE.und_all hlt
  rw [show GE.look GE.undT t=some d from h] at e
  simp only [GE.pick,Dz] at e
  exact e
 fld t fs h f hf:=by
  have hlt:=GE.look_lt GE.undT_len h
  have e:=GE.all_range GE.fld_all hlt
  rw [show GE.look GE.undT t=some (.struct fs) from h] at e
  simp only [Bt] at e
  exact AB.1 (e f hf)
 inf t s b z h:=by
  have hlt:=GE.look_lt GE.infT_len h
  have e:=GE.at_range GE.inf_all hlt
  have c:=GE.all_range GE.inf_closed hlt
  rw [show GE.look GE.infT t=some (s,b,z) from h] at e c
  simp only [GE.pick,Option.bind_eq_some_iff,Dz,BL] at e
  obtain ⟨i,h1,z',h2,h3,h4,h5⟩:=e
  subst h5
  exact ⟨⟨i,h1,h3,h4,h2⟩,c⟩
 cmp t fs h:=by
  have hlt:=GE.look_lt GE.cmpT_len h
  have e:=GE.at_range GE.cmp_all hlt
  rw [show GE.look GE.cmpT t=some fs from h] at e
  simp only [GE.pick] at e
  unfold GE.cmpP at e
  split at e
  ·rename_i F hF
   split at e
   ·rename_i hc
    injection e with e
    simp only [AT,BU,Bt] at hc
    exact ⟨F,hF,e.symm,fun f hf=>by simpa using hc.1 f hf,hc.2.1,hc.2.2⟩
   cases e
  cases e
 get f fn h:=by
  have hlt:=GE.look_lt GE.fnT_len h
  have e:=GE.at_range GE.fn_all hlt
  rw [show GE.look GE.fnT f=some fn from h] at e
  exact e
 ent f fn h args w:=by
  have hlt:=GE.look_lt GE.fnT_len h
  have e:=GE.at_range GE.fn_all hlt
  have c:=GE.all_range GE.fn_body hlt
  rw [show GE.look GE.fnT f=some fn from h] at e c
  have e:Tryz.prog.funcs[f]?=some fn:=e
  simp only [AT,BU] at c
  obtain ⟨b,hb⟩:=AB.1 c.1
  have c2:¬fn.name= "runtime.NumGoroutine" :=by simpa using c.2
  simp [callFunc,e,c2,hb]
 ext f args v h:=GE.ext_ok f args v h
 mixed:=GE.mixed
theorem aK:∀f a c,env.fn f=some a→a.body=some c→xo regOk c=true:=fun f a c h d=>by
 have b:=GE.look_lt GE.fnT_len h
 have e:=GE.all_range GE.fn_code b
 rw [show GE.look GE.fnT f=some a from h] at e
 simp only [d] at e
 exact e
noncomputable def rel:Rel:={E:=env,P:=Tryz.prog,ok:=fun c=>xo regOk c=true}
theorem zmb (L d:Nat):CalOk rel (calN env L d):=
 zcl (X:=rel) (reg:=regOk) aJ L (fun _=>Db) aK (fun C f c e b a=>kL aJ b a) d
end Go.Proofs.YtfajmfoofmienaaGreatDoor
/- The sanity check of the laws returns true: a closed run of the evaluator. -/
namespace Go.Proofs.YtfajmfoofmienaaGreatDoor
open Go Go.GL
variable {m:Nat}{args c:List Value}{h:HF}{f:FuncId}
namespace GK
def u (k:IntKind)(l:List Int):List Value:=l.map fun n=>jy k n
def d64:List Value:=u .u8 [0,1,56,2,57,49,28,3,61,58,42,50,38,29,17,4,62,47,59,36,45,43,51,22,53,39,33,30,24,18,12,5,63,55,48,27,60,41,37,16,46,35,44,21,52,32,23,11,54,26,40,15,34,20,31,10,25,14,19,9,13,8,7,6]
def p10:List Value:=u .u64 [1,10,100,1000,10000,100000,1000000,10000000,100000000,1000000000,10000000000,100000000000,1000000000000,10000000000000,100000000000000,1000000000000000,10000000000000000,100000000000000000,1000000000000000000,10000000000000000000]
def d32:List Value:=u .u8 [0,1,28,2,29,14,24,3,30,22,20,15,25,17,4,8,31,27,13,23,21,19,16,7,26,12,18,6,11,5,10,9]
noncomputable def h0:Hp:=Tr.put (Tr.put (Tr.put (Tr.mk none 13) 3 (some (.ro d64))) 0 (some (.ro p10))) 12 (some (.ro d32))
def okB:Option (Value×Hp×Nat×List Nat)→Bool
 |some (kz true,_,_,[])=>true
 |_=>false
theorem bL {r:Option (Value×Hp×Nat×List Nat)}(h:okB r=true):∃hx nx,r=some (kz true,hx,nx,[]):=by
 unfold okB at h;split at h
 ·exact ⟨_,_,rfl⟩
 cases h
set_option maxRecDepth 1000000 in
theorem ze2:okB ((calN env 1000000 60).call 9 [] h0 20)=true:=by kernel_rfl
def zkn:List (List UInt8):=[[48],[49],[50],[51],[52],[45,49],[45,50],[45,51],[45,52]]
def isSmall (l:List UInt8):Bool:=zkn.any (· ==l)
def bads:List (List UInt8):=[[49,47,49],[45,48],[]]
def isBad (l:List UInt8):Bool:=bads.any (· ==l)
def okF:Option (Value×Hp×Nat×List Nat)→Bool
 |some (kz false,_,_,[])=>true
 |_=>false
theorem ziq {r:Option (Value×Hp×Nat×List Nat)}(h:okF r=true):∃hx nx,r=some (kz false,hx,nx,[]):=by
 unfold okF at h;split at h
 ·exact ⟨_,_,rfl⟩
 cases h
set_option maxRecDepth 1000000 in
theorem zn8:bads.all (fun l=>okF ((calN env 1000000 60).call 82 [kF ⟨⟨l⟩⟩] h0 20))=true:=by kernel_rfl
set_option maxRecDepth 1000000 in
theorem zc2:zkn.all (fun l=>okB ((calN env 1000000 60).call 82 [kF ⟨⟨l⟩⟩] h0 20))=true:=by kernel_rfl
theorem zp5 (b:Nat):h0.at b=if b=12 then some (.ro d32) else if b=0 then some (.ro p10) else if b=3 then some (.ro d64) else none:=by
 unfold h0;show Tr.get none _ b=_;rw [Tr.get_put none rfl,Tr.get_put none rfl,Tr.get_put none rfl,Tr.get_mk]
theorem nb_u {k:IntKind}{l:List Int}:∀v∈u k l,Nb m v:=fun v a=>by
 unfold u at a;rw [List.mem_map] at a;obtain ⟨n,_,rfl⟩:=a;exact Nb.int
theorem znf:HNb (3*20) h0:=fun b x a=>by
 rw [zp5] at a;split at a
 ·rename_i e;injection a with a;subst e a;exact ⟨zo,nb_u⟩
 split at a
 ·rename_i e;injection a with a;subst e a;exact ⟨zo,nb_u⟩
 split at a
 ·rename_i e;injection a with a;subst e a;exact ⟨zo,nb_u⟩
 cases a
def G (h:HF):Prop:=h 3=some (.ro d64)∧h 0=some (.ro p10)∧h 12=some (.ro d32)
theorem fh {x:Blk}(h:x.view=.ro c):x=.ro c:=by
 cases x<;>simp [Blk.view] at h;subst h;rfl
theorem G_at {h:Hp}(p:G (hv h)):∀b x,h0.at b=some x→h.at b=some x:=fun b x a=>by
 obtain ⟨j,l,o⟩:=p;obtain ⟨v,d,q⟩:=ta j;obtain ⟨w,g,s⟩:=ta l;obtain ⟨y,i,u⟩:=ta o;rw [zp5] at a;split at a
 ·rename_i e;injection a with a;subst e a;rw [i,fh u]
 split at a
 ·rename_i e;injection a with a;subst e a;rw [g,fh s]
 split at a
 ·rename_i e;injection a with a;subst e a;rw [d,fh q]
 cases a
def orc (f:FuncId)(a:List Value):Option Value:=
 match AG f 9 with
 |true=>(match a with|[]=>some (kz true)|_=>none)
 |false=>match AG f 82 with
  |true=>(match a with|[kF ⟨⟨l⟩⟩]=>(match isSmall l with|true=>some (kz true)|false=>(match isBad l with|true=>some (kz false)|false=>none))|_=>none)
  |false=>none
theorem orc_ok:∀f args v,orc f args=some v→Orc rel G f args v:=fun f args v h=>by
 unfold orc at h;split at h
 ·rename_i hf;have hf:=Aw hf;subst hf;split at h
  ·injection h with h
   subst h;obtain ⟨a,nx,hr⟩:=bL ze2;exact ph (zmb 1000000 60) hr (fun x a=>cA a nN) rfl (fun h b=>G_at b) znf
  cases h
 split at h
 ·rename_i hf;have hf:=Aw hf;subst hf;split at h
  ·rename_i l;split at h
   ·rename_i hl;injection h with h
    subst h;unfold isSmall at hl;rw [EI] at hl;obtain ⟨l',hl',he⟩:=hl;have he:l'=l:=by simpa using he
    subst he;have d:=Bt.1 zc2 l' hl';obtain ⟨a,nx,hr⟩:=bL d;exact ph (zmb 1000000 60) hr (fun x a=>by simp at a;subst a;rfl) rfl (fun h b=>G_at b) znf
   split at h
   ·rename_i hl;injection h with h
    subst h;unfold isBad at hl;rw [EI] at hl;obtain ⟨l',hl',he⟩:=hl;have he:l'=l:=by simpa using he
    subst he;have d:=Bt.1 zn8 l' hl';obtain ⟨a,nx,hr⟩:=ziq d;exact ph (zmb 1000000 60) hr (fun x a=>by simp at a;subst a;rfl) rfl (fun h b=>G_at b) znf
   cases h
  cases h
 cases h
end GK
def LL:Nat:=1180591620717411303424
noncomputable def cal (k:Nat):CalF:=calF env LL GK.orc GK.G k
theorem zqz (k:Nat):CalOk rel (calO env LL GK.orc GK.G k):=
 zck (X:=rel) (reg:=regOk) aJ LL (fun _=>Db) aK (fun C g d e b a=>kL aJ b a) GK.orc_ok k
theorem zn5 (k:Nat):CalTo (calO env LL GK.orc GK.G k) (cal k):=zqy env LL GK.orc GK.G k
theorem zg0 (k:Nat)(a:GK.G h)(n:Nat):(cal (k+1)).call 9 [] h n=some (kz true,h,n,[]):=by
 show (match orcF GK.orc GK.G 9 [] h with|some v=>some (v,h,n,[])|none=>fnF env (cal k) LL 9 [] h n)=_;unfold orcF;rw [eN a];rfl
theorem zgz (k:Nat)(a:GK.G h)(n:Nat){l:List UInt8}(hl:GK.isSmall l=true):(cal (k+1)).call 82 [kF ⟨⟨l⟩⟩] h n=some (kz true,h,n,[]):=by
 show (match orcF GK.orc GK.G 82 [kF ⟨⟨l⟩⟩] h with|some v=>some (v,h,n,[])|none=>fnF env (cal k) LL 82 [kF ⟨⟨l⟩⟩] h n)=_;unfold orcF;rw [eN a];have:GK.orc 82 [kF ⟨⟨l⟩⟩]=some (kz true):=by
  show (match GK.isSmall l with|true=>some (kz true)|false=>(match GK.isBad l with|true=>some (kz false)|false=>none))=_;rw [hl]
 rw [this]
theorem zj2 (k:Nat)(a:GK.orc f args=none)(h:HF)(n:Nat):(cal (k+1)).call f args h n=fnF env (cal k) LL f args h n:=by
 show (match orcF GK.orc GK.G f args h with|some v=>some (v,h,n,[])|none=>fnF env (cal k) LL f args h n)=_;have:orcF GK.orc GK.G f args h=none:=by
  unfold orcF;rw [a];split<;>rfl
 rw [this]
end Go.Proofs.YtfajmfoofmienaaGreatDoor
namespace Go.Proofs.YtfajmfoofmienaaGreatDoor
open Go Go.GL
variable {ops r:List Oper}{n bytes size cap off bt lo m' n' n0 sz c' id l1 l2 b k m d j V B P p:Nat}{w ld ln W A C:List Nat}{o o2:Oper}{cells args new cs c:List Value}{body:Code}{ty' ty xT e2 e3 e:TypeId}{fn:Func}{c1 c2 d1 d2 n1 n2 z2 v z:Value}{a1 a2 a:Option Addr}{α:Type}{ik:IntKind}{ji:Int}{f:FuncId}{x y:Operand}{q:Rat}
variable {u:Value}{sT:TypeId}{h' h:HF}
def rz:Ex→Bool| .exit _=>false|_=>true
noncomputable def ctx (k n nt:Nat):CtxF:={E:=env,C:=cal k,L:=LL,round:=none,n0:=n,nt:=nt}
theorem nk {h:HF}{n:Nat}{P:Value→HF→Nat→List Nat→Prop}(C:GK.orc f args=none)(p:env.fn f=some fn)(B:fn.body=some body)(q:Ai (gP args) fn.ntmps=true)
  (D:EC (ctx k n fn.ntmps) body ⟨kd args,h,n,[]⟩ fun e s=>rz e=true∧∃g,resF env s fn.results.toList=some g∧P (endF env f h n s g).1 (endF env f h n s g).2.1 (endF env f h n s g).2.2.1 (endF env f h n s g).2.2.2):CF (cal (k+1)) f args h n P:=by
 obtain ⟨e,s,j,y,g,l,A⟩:=D;refine ⟨_,_,_,_,?_,A⟩;rw [zj2 k C h n];unfold fnF;unfold ctx at j;simp only [p,B,q,j];cases e with
 |exit i=>cases y
 |normal=>simp only [l]
 |ret=>simp only [l]
def RetH (fn:Func)(P:Value→HF→Nat→List Nat→Prop):Ex→SV→Prop:=fun e s=>rz e=true∧∃vs,resF env s fn.results.toList=some vs∧td vs=false∧P (pg vs) s.h s.n s.w
theorem retH {P:Value→HF→Nat→List Nat→Prop}{e:Ex}{s:SV}(g:List Value)(i:rz e=true∧resF env s fn.results.toList=some g∧td g=false)(l:P (pg g) s.h s.n s.w):RetH fn P e s:=by obtain ⟨i,p,j⟩:=i;exact ⟨i,g,p,j,l⟩
theorem zu {h:HF}{n:Nat}{P:Value→HF→Nat→List Nat→Prop}(g:GK.orc f args=none∧env.fn f=some fn∧fn.body=some body∧Ai (gP args) fn.ntmps=true)
  (C:EC (ctx k n fn.ntmps) body ⟨kd args,h,n,[]⟩ (RetH fn P)):CF (cal (k+1)) f args h n P:=by
 obtain ⟨g,j,B,l⟩:=g;refine nk g j B l (tY C fun e s ⟨p,i,q,y,A⟩=>⟨p,i,q,?_⟩);have e:endF env f h n s i=(pg i,s.h,s.n,s.w):=by
  unfold endF;rw [y,Bool.and_false]
 rw [e];exact A
def RetF (fn:Func)(P:Value→Prop):Ex→SV→Prop:=fun e s=>rz e=true∧∃vs,resF env s fn.results.toList=some vs∧td vs=true∧s.w=[]∧P (pg vs)
theorem retF {P:Value→Prop}{e:Ex}{s:SV}(g:List Value)(j:rz e=true)(p:resF env s fn.results.toList=some g)(i:td g=true∧s.w=[])(l:P (pg g)):RetF fn P e s:=by obtain ⟨i,q⟩:=i;exact ⟨j,g,p,i,q,l⟩
def VF (C:CalF)(f:FuncId)(args:List Value)(h:HF)(n:Nat)(P:Value→Prop):Prop:=CF C f args h n fun v h' n' w=>h'=h∧n'=n∧w=[]∧P v
theorem zI {h:HF}{n:Nat}{P:Value→Prop}(g:GK.orc f args=none∧env.fn f=some fn∧fn.body=some body∧Ai (gP args) fn.ntmps=true)
  (D:EC (ctx k n fn.ntmps) body ⟨kd args,h,n,[]⟩ (RetF fn P)):VF (cal (k+1)) f args h n P:=by
 obtain ⟨g,j,C,l⟩:=g;refine nk g j C l (tY D fun e s ⟨p,i,q,y,A,B⟩=>⟨p,i,q,?_⟩);have e:endF env f h n s i=(pg i,h,n,[]):=by
  unfold endF;rw [y,A];rfl
 rw [e];exact ⟨rfl,rfl,rfl,B⟩
section
variable {X:CtxF}{t:TF}{h:HF}{Q:SV→Prop}{d:Tmp}
theorem yk (P:Value→Prop)(j:sh X ops t o d (cls o.op=3∧effF X.E o.op (evF t) h n=some (.enter f args)))(g:VF X.C f args h n P)
  (k:∀v,P v→EO X ops r ⟨upd t d v,h,n,w⟩ Q):EO X ops (o::r) ⟨t,h,n,w⟩ Q:=by
 obtain ⟨j,p,s,l,q⟩:=j;refine zB _ ⟨j,p,s,l,q⟩ g fun v h' n' y i=>?_;obtain ⟨rfl,rfl,rfl,i⟩:=i;exact k v i
end
theorem yg {C:CalF}{h:HF}{n:Nat}{P g:Value→HF→Nat→List Nat→Prop}(l:CF C f args h n P)(p:∀v h' n' w,P v h' n' w→g v h' n' w):CF C f args h n g:=by
 obtain ⟨v,h',n',w,i,j⟩:=l;exact ⟨v,h',n',w,i,p _ _ _ _ j⟩
theorem zk {s:SV}{a:Tmp}(h:s.t a=v):resF env s [.tmp a]=some [v]:=by
 simp only [resF,h]
theorem zdw {s:SV}{a:Tmp}{g:Addr}(i:s.t a=kS (some g))(hl:yr env ty s.h g=some v):resF env s [.cell a ty]=some [v]:=by
 simp only [resF,i,hl]
theorem xu {P:Value→HF→Nat→List Nat→Prop}{e:Ex}{t:TF}{h:HF}{n:Nat}{w:List Nat}{a:Tmp}{i:TypeId}(g:rz e=true∧fn.results.toList=[.cell a ty]∧t a=kS (some ⟨b,0,none⟩)∧GL.isAgg env ty=some true∧env.inf ty=some (sz,bt,z))(l:h b=some (.row cs i))(hl:gP cs=sz)(s:P (.agg cs.toArray) h n w):RetH fn P e ⟨t,h,n,w⟩:=by
 obtain ⟨g,y,j,p,q⟩:=g;refine retH [.agg cs.toArray] ⟨g,?_,rfl⟩ s;rw [y];exact zdw j (zT ⟨p,q⟩ l rfl zo (by rw [AQ,Aa zo]))
def Ext (n:Nat)(h h':HF):Prop:=∀b,b<3*n→h' b=h b
theorem Ext.refl (n:Nat)(h:HF):Ext n h h:=fun _ _=>rfl
theorem Ext.trans {n:Nat}{a b c:HF}(h:Ext n a b)(h':Ext n' b c)(i:n≤n'):Ext n a c:=fun k g=>(h' k zo).trans (h k g)
theorem rA {h:HF}{n:Nat}(l:GK.G h)(e:Ext n h h')(p:20≤n):GK.G h':=by
 obtain ⟨g,i,j⟩:=l;exact ⟨(e _ zo).trans g,(e _ zo).trans i,(e _ zo).trans j⟩
theorem Ext.upd {n:Nat}{h:HF}{x:Option BF}(g:3*n≤b):Ext n h (GL.upd h b x):=fun k i=>zj zo
theorem Ext.mono {n:Nat}{h:HF}(e:Ext n' h h')(i:n≤n'):Ext n h h':=fun k g=>e k zo
inductive Sl (h:HF) (n sz:Nat):Value→List Value→Prop
 |nil {a:Option Addr} {c:Nat} (ha:a=none∨∃b off sp,a=some ⟨b,off,sp⟩∧b<3*n):Sl h n sz (jx a 0 c) []
 |at_ {b off len cap:Nat} {x:BF} {cs cells:List Value} (hb:b<3*n) (hx:h b=some x) (hc:x.cells=some cs) (hcap:len≤cap) (hl:off+len*sz≤gP cs) (he:(cs.drop off).take (len*sz)=cells):Sl h n sz (jx (some ⟨b,off,none⟩) len cap) cells
def yj (n:Nat):Value→Prop
 | jx (some a) _ _=>3*n≤a.block
 |_=>True
theorem vR {n:Nat}(h:a=none∨∃b g i,a=some ⟨b,g,i⟩∧b<3*n)(l:n≤n'):a=none∨∃b g i,a=some ⟨b,g,i⟩∧b<3*n':=by
 rcases h with h|⟨b,g,i,e,j⟩
 ·exact .inl h
 exact .inr ⟨b,g,i,e,zo⟩
theorem Sl.ext {h:HF}{n:Nat}(s:Sl h n sz v c)(e:Ext n h h')(g:n≤n'):Sl h' n' sz v c:=by
 cases s with
 |nil ha=>exact .nil (vR ha g)
 |at_ hb hx hc hcap hl he=>exact .at_ zo (by rw [e _ hb];exact hx) hc hcap hl he
theorem Sl.keep {h:HF}{n:Nat}(s:Sl h n sz v c)(g:∀a l cap,v=jx (some a) l cap→h' a.block=h a.block)(i:n≤n'):Sl h' n' sz v c:=by
 cases s with
 |nil ha=>exact .nil (vR ha i)
 |at_ hb hx hc hcap hl he=>exact .at_ zo (by rw [g _ _ _ rfl];exact hx) hc hcap hl he
theorem Sl.old {h:HF}{n:Nat}{x:Option BF}(s:Sl h n sz v c)(g:yj m v)(i:b<3*m):Sl (GL.upd h b x) n sz v c:=
 s.keep (fun a l cap e=>by subst e;exact zj (by have:3*m≤a.block:=g;omega)) eT
theorem yj.mono (h:yj m v)(g:m'≤m):yj m' v:=by
 unfold yj at*
 split<;>simp_all;omega
theorem Sl.ones {h:HF}{n:Nat}(s:Sl h n sz v c)(r:List Value):ones (v::r)=ones r:=by
 cases s<;>rfl
theorem Sl.inv {h:HF}{n:Nat}{len:Nat}(s:Sl h n sz (jx a len cap) c)(hl:len≠0):∃b off x cs,a=some ⟨b,off,none⟩∧b<3*n∧h b=some x∧x.cells=some cs∧len≤cap∧off+len*sz≤gP cs∧(cs.drop off).take (len*sz)=c:=by
 cases s with
 |nil ha=>exact cA rfl hl
 |at_ hb hx hc hcap hl he=>exact ⟨_,_,_,_,rfl,hb,hx,hc,hcap,hl,he⟩
theorem Sl.len {h:HF}{n:Nat}(s:Sl h n sz v c):∃a l cap,v=jx a l cap∧gP c=l*sz:=by
 cases s with
 |nil ha=>exact ⟨_,_,_,rfl,gN⟩
 |at_ hb hx hc hcap hl he=>exact ⟨_,_,_,rfl,by rw [←he];simp;omega⟩
section
variable {X:CtxF}{t:TF}{h:HF}{Q:SV→Prop}{d:Tmp}
theorem qS (i:sh X ops t o d (o.op=.convert ty e x∧uk X.E ty e (evF t x)=none))(B:qP X.E ty e (evF t x) h=some v)(k:EO X ops r ⟨upd t d v,h,n,w⟩ Q):EO X ops (o::r) ⟨t,h,n,w⟩ Q:=by
 obtain ⟨i,y,A,g,q⟩:=i;obtain ⟨C,j,l⟩:=k;refine ⟨C,?_,l⟩;rw [seqF,i];have s:cls o.op=4:=by rw [g];rfl
 have p:mkE X.E o.op (evF t)=none:=by rw [g];exact q
 simp only [opF,s,p];rw [g];simp only [B,xS,y,A,addW];exact j
end
inductive Gro (h:HF) (lo n:Nat) (e:TypeId) (sz:Nat):Value→Nat→List Value→Prop
 |nil:Gro h lo n e sz (jx none 0 0) 0 []
 |at_ {b len:Nat} {c:List Value} (hg:gro b=true) (hlo:3*lo≤b) (hb:b<3*n) (hr:h b=some (.row c e)) (hl:gP c=len*sz) (ho:ones c=true):Gro h lo n e sz (jx (some ⟨b,0,none⟩) len len) len c
theorem Gro.ext {h:HF}{n:Nat}{len:Nat}(g:Gro h lo n e sz v len c)(i:Ext n h h')(j:n≤n'):Gro h' lo n' e sz v len c:=by
 cases g with
 |nil=>exact .nil
 |at_ hg hlo hb hr hl ho=>exact .at_ hg hlo zo (by rw [i _ hb];exact hr) hl ho
theorem Gro.sl {h:HF}{n:Nat}{len:Nat}(g:Gro h lo n e sz v len c):Sl h n sz v c:=by
 cases g with
 |nil=>exact .nil (.inl rfl)
 |at_ hg hlo hb hr hl ho=>exact .at_ hb hr rfl eT zo (by rw [AQ,Aa zo])
theorem Gro.fresh {h:HF}{n:Nat}{len:Nat}(g:Gro h lo n e sz v len c):yj lo v:=by
 cases g with
 |nil=>trivial
 |at_ hg hlo hb hr hl ho=>exact hlo
theorem Gro.shape {h:HF}{n:Nat}{len:Nat}(g:Gro h lo n e sz v len c):∃a,v=jx a len len∧gP c=len*sz:=by
 cases g with
 |nil=>exact ⟨_,rfl,gN⟩
 |at_ hg hlo hb hr hl ho=>exact ⟨_,rfl,hl⟩
def Keep (v:Value)(n:Nat)(h h':HF):Prop:=∀b,b<3*n→(∀o l c,v≠jx (some ⟨b,o,none⟩) l c)→h' b=h b
def Below (m:Nat):Value→Prop
 | jx (some a) _ _=>a.block<3*m
 |_=>True
theorem Gro.below {h:HF}{n:Nat}{len:Nat}(g:Gro h lo n e sz v len c):Below n v:=by
 cases g with
 |nil=>trivial
 |at_ hg hlo hb hr hl ho=>exact hb
theorem Sl.below {h:HF}{n:Nat}(s:Sl h n sz v c):Below n v:=by
 cases s with
 |nil ha=>
  rcases ha with rfl|⟨b,i,j,rfl,g⟩
  ·trivial
  exact g
 |at_ g hx hc hcap hl he=>exact g
theorem Sl.app {h:HF}{n:Nat}(s:Sl h n sz u c)(p:Keep v n h h')(y:Below m v)(j:yj m u)(q:n≤n'):Sl h' n' sz u c:=by
 cases s with
 |nil ha=>exact .nil (vR ha q)
 |at_ hb hx hc hcap hl he=>
  refine .at_ zo ?_ hc hcap hl he;rw [p _ hb fun o l c e=>by subst e;have g:_<3*m:=y;have i:3*m≤_:=j;simp only at g i;omega];exact hx
theorem wy {a b:List Value}(g:ones a=true)(i:ones b=true):ones (a++b)=true:=by
 induction a with
 |nil=>exact i
 |cons v a ih=>cases v<;>simp [ones] at g ⊢ <;>exact ih g
theorem mB (n:Nat):gro (3*n+1)=true:=by
 unfold gro;rw [show (3*n+1)%3=1 from zo];rfl
theorem z0 {w:List Nat}(h:∀b∈W,3*n0≤b):addW n0 W w=w:=by
 induction W generalizing w with
 |nil=>rfl
 |cons b W ih=>
  show (match Ai (3*n0) b with|true=>addW n0 W w|false=>addW n0 W (b::w))=w;rw [sn (h b gN)];exact ih fun c g=>h c (by simp [g])
theorem wW {E:Env}{h:HF}{n len:Nat}{x:Value}(hu:E.und sT=some (.slice e))(p:E.inf e=some (size,bytes,z))(A:gP (zC z)=size)(i:1≤size∧1≤bytes)(j:Gro h lo n e size v len c)(y:argS h size x m new)(q:1≤m)(g:(len+m)*bytes≤1099511627776)(hl:gP new=m*size)(l:ones new=true)(B:lo≤n):
  ∃v' h' W,xf E h n sT v x=some (.val v' h' (n+1) W)∧Gro h' lo (n+1) e size v' (len+m) (c++new)∧Ext lo h h'∧Keep v n h h'∧(∀b∈W,3*lo≤b)∧yj n v':=by
 cases j with
 |nil=>
  refine ⟨_,_,_,append_nil hu p A i.1 i.2 y q (by rw [AA] at g;exact g),?_,fun b g=>zj zo,fun b g _=>zj zo,fun b g=>cA g nN,by show 3*n≤3*n+1;omega⟩;rw [AA];exact .at_ (mB n) zo zo (zh _ _ _) hl l
 |at_ j hlo2 hb2 hr hl2 ho2=>
  refine ⟨_,_,_,pB hu p A i.1 i.2 y q g j hr hl2 (wy ho2 l) hl,?_,fun b g=>?_,fun b g s=>?_,fun b g=>?_,by show 3*n≤3*n+1;omega⟩
  ·exact .at_ (mB n) zo zo (zh _ _ _) (by rw [nn,hl2,hl,AH]) (wy ho2 l)
  ·rw [zj zo,zj zo]
  ·rw [zj zo,zj (fun e=>s 0 len len (by rw [e]))]
  simp at g;omega
section
variable {X:CtxF}{t:TF}{h:HF}{Q:SV→Prop}{d:Tmp}
theorem iE {s:Operand}{len:Nat}(j:sh X ops t o d (o.op=.call {callee:=.builtin .append,args:=#[s,x],argTypes:=#[sT,xT]}∧(match X.E.und xT with|some (.int _)=>false|none=>false|_=>true)=true∧X.E.und sT=some (.slice e)∧X.E.inf e=some (size,bytes,z)∧gP (zC z)=size))(y:1≤size∧1≤bytes)(G:Gro h lo n e size (evF t s) len c)(L:argS h size (evF t x) m new)(I:1≤m)(i:(len+m)*bytes≤1099511627776)(hl:gP new=m*size)(p:ones new=true)(l:X.n0≤lo∧lo≤n)
  (k:∀g h',Gro h' lo (n+1) e size g (len+m) (c++new)→Ext lo h h'→Keep (evF t s) n h h'→EO X ops r ⟨upd t d g,h',n+1,w⟩ Q):EO X ops (o::r) ⟨t,h,n,w⟩ Q:=by
 obtain ⟨j,hd,hn,J,q,K,H,M⟩:=j;obtain ⟨g,h',W,A,B,C,F,D,_⟩:=wW K H M y G L I i hl p l.2;refine xD ⟨j,hd,hn,J,q⟩ A ?_;rw [z0 fun b i=>by have:=D b i;omega];exact k g h' B C F
end
theorem Sl.take {h:HF}{n:Nat}{len:Nat}(s:Sl h n sz (jx a len cap) c)(m:Nat)(A:m≤len):Sl h n sz (jx a m cap) (c.take (m*sz)):=by
 have i:=s.below;by_cases h0:len=0
 ·have:m=0:=zo;subst this;rw [BE,Bj];cases a with
  |none=>exact .nil (.inl rfl)
  |some a=>
   cases s with
   |nil ha=>exact .nil ha
   |at_ i y l g hl p=>exact .nil (.inr ⟨_,_,_,rfl,i⟩)
 obtain ⟨b,C,x,cs,rfl,j,y,l,g,B,p⟩:=s.inv h0;have q:m*sz≤len*sz:=Ab _ A;refine .at_ j y l zo zo ?_;rw [←p,DP,Be q]
theorem yH {h:HF}{len:Nat}{x:BF}(j:h b=some x)(g:x.cells=some cs∧gP cs=len*sz):argS h sz (jx (some ⟨b,0,none⟩) len cap) len cs:=by
 obtain ⟨g,i⟩:=g;refine ⟨rfl,?_⟩;simp only [yn];by_cases h0:len*sz=0
 ·rw [eN h0];rw [h0] at i;rw [xd.1 i]
 rw [cC h0];have:Ai (0+len*sz) (gP cs)=true:=sn zo;simp only [uy,j,g,this,B4,A4,AQ];rw [Aa zo]
theorem tX {h:HF}{n:Nat}{len:Nat}(s:Sl h n sz (jx a len cap) c):argS h sz (jx a len cap) len c:=by
 cases s with
 |nil ha=>
  refine ⟨rfl,?_⟩;rcases ha with rfl|⟨b,g,i,rfl,_⟩<;>simp [yn]
 |at_ hb hx hc hcap hl he=>
  refine ⟨rfl,?_⟩;simp only [yn];by_cases h0:len*sz=0
  ·rw [eN h0,←he,h0];simp
  rw [cC h0];have:Ai (_+len*sz) _=true:=sn hl;simp only [uy,hx,hc,this,B4,A4,he]
section
variable {len:Nat}
def u32s (l:List Nat):List Value:=l.map fun d:Nat=>jy .u32 (d:Int)
theorem xv (l:List Nat):gP (u32s l)=gP l:=by simp [u32s]
theorem fj (a b:List Nat):u32s (a++b)=u32s a++u32s b:=by simp [u32s]
def yS (l:List Nat):List Nat:=(l.reverse.dropWhile (· ==0)).reverse
theorem xp (l:List Nat):yS (l++[0])=yS l:=by simp [yS]
theorem xA (l:List Nat)(h:d≠0):yS (l++[d])=l++[d]:=by simp [yS,h]
theorem snoc {l:List Nat}(h:l≠[]):∃i d,l=i++[d]:=⟨l.dropLast,l.getLast h,(List.dropLast_concat_getLast h).symm⟩
theorem wE (e:(cs.drop off).take m=cells)(b:cells[j]?=some u):cs[off+j]?=some u:=by
 have c:=(oc.1 b).1;rw [←e] at b c;have:j<m:=by simp at c;omega
 rw [List.getElem?_take_of_lt this,B3] at b;exact b
theorem rJ (k:Nat){l:List Nat}(C:gP l<4611686018427387904)(y:Sl h n 1 (jx a len cap) (u32s l)):CF (cal (k+1)) 109 [jx a len cap] h n fun A o q w=>o=h∧q=n∧w=[]∧A=jx a (gP (yS l)) cap∧Sl h n 1 A (u32s (yS l)):=by
 refine zu (fn:=Tryz.f109) R4 ?_;refine Zb ?_;have g:len=gP l:=by
  obtain ⟨G,F,B,e,D⟩:=y.len;rw [xv] at D;injection e with e1 e2 e3
  omega
 subst g;refine z9 (α:=List Nat) (fun c=>[(0,jx a (gP c) cap)]) (fun c o q w=>o=h∧q=n∧w=[]∧Sl h n 1 (jx a (gP c) cap) (u32s c)∧yS c=yS l∧gP c<4611686018427387904) (fun c=>gP c) l ⟨rfl,eP⟩ ⟨rfl,rfl,rfl,y,rfl,C⟩ (by show gP l<LL;unfold LL;omega) ?_;rintro c t _ _ _ ⟨rfl,rfl,rfl,s,p,H⟩;refine zN ?_;by_cases hl0:c=[]
 ·subst hl0;refine Zi ?_;refine retH _ ⟨rfl,(zk rfl),rfl⟩ ⟨rfl,rfl,rfl,?_⟩;rw [←p];exact ⟨rfl,s⟩
 obtain ⟨i,d,rfl⟩:=snoc hl0;rw [nn,xl] at*
 cases s with
 |at_ hb2 hx hc hcap hle he=>
  rename_i b off x cs;have f:cs[off+gP i]?=some (jy .u32 (d:Int)):=wE he (by simp [u32s]);repeat refine zR ?_
  refine wp R8 zo ?_;refine zl R6 hx (v:=jy .u32 (d:Int)) ⟨hc,(by rw [←f];congr 1;omega)⟩ ?_;by_cases hd:d=0
  ·refine Zr ?_;refine sk (gP i) R8 zo zo ?_;refine Za ?_;refine goOn i gN ⟨rfl,eP⟩ ⟨rfl,rfl,rfl,.at_ hb2 hx hc zo zo ?_,?_,zo⟩
   ·have:=congrArg (List.take (gP i)) he;rw [DP] at this;simpa [u32s,Be] using this
   rw [←p,hd,xp]
  refine Zi ?_;refine retH _ ⟨rfl,(zk rfl),rfl⟩ ⟨rfl,rfl,rfl,?_⟩;rw [←p,xA _ hd];exact ⟨by rw [nn];rfl,.at_ hb2 hx hc hcap hle he⟩
end
def val:List Nat→Nat
 |[]=>0
 |d::r=>d+4294967296*val r
def Dig (l:List Nat):Prop:=∀d∈l,d<4294967296
theorem tZ (a b:List Nat):val (a++b)=val a+4294967296^gP a*val b:=by
 induction a with
 |nil=>simp [val]
 |cons d a ih=>
  simp only [EH,val,ih,Au,Ar,A1];rw [←Az,vT (4294967296^gP a) 4294967296];omega
theorem zc3 {l:List Nat}(h:Dig l):val l<4294967296^gP l:=by
 induction l with
 |nil=>simp [val]
 |cons d l ih=>
  have c:=h d gN;have e:=ih fun x a=>h x (by simp [a]);simp only [val,Au,Ar];omega
theorem xZ {P:List Nat→Prop}(c:∀l,P l→P (l++[0]))(a:∀l d,d≠0→P (l++[d]))(h0:P []):∀l,P l:=by
 intro l;induction h:gP l generalizing l with
 |zero=>rw [xd.1 h];exact h0
 |succ m ih=>
  obtain ⟨i,d,rfl⟩:=snoc (l:=l) (by intro e;rw [e] at h;simp at h);by_cases hd:d=0
  ·subst hd;exact c i (ih i (by simpa using h))
  exact a i d hd
theorem vi:∀l,val (yS l)=val l:=
 xZ (fun l ih=>by rw [xp,ih,tZ];simp [val]) (fun l d a=>by rw [xA l a]) rfl
theorem kf:∀l,yS (yS l)=yS l:=
 xZ (fun l ih=>by rw [xp,ih]) (fun l d a=>by rw [xA l a,xA l a]) rfl
theorem jY:∀l,Dig l→Dig (yS l):=
 xZ (fun l ih h=>by rw [xp];exact ih fun d a=>h d (by simp [a])) (fun l d a h=>by rw [xA l a];exact h) (fun h=>h)
theorem wK:∀l,gP (yS l)≤gP l:=
 xZ (fun l ih=>by rw [xp];simp;omega) (fun l d a=>by rw [xA l a];exact AK _) (by simp [yS])
def Norm (l:List Nat):Prop:=Dig l∧yS l=l
theorem Norm.trim {l:List Nat}(h:Dig l):Norm (yS l):=⟨jY l h,kf l⟩
theorem Norm.last {l:List Nat}(h:Norm (l++[d])):d≠0:=fun e=>by
 have a:=h.2;subst e;rw [xp] at a;have:=wK l;rw [a] at this;simp at this;omega
theorem Norm.pos {l:List Nat}(h:Norm l)(hl:l≠[]):0<val l:=by
 obtain ⟨i,d,rfl⟩:=snoc hl;have c:=h.last;rw [tZ];have:0<4294967296^gP i:=Bz zo;have a:0<val [d]:=by simp [val];omega
 have:=Nat.mul_pos this a;omega
theorem Norm.zero {l:List Nat}(h:Norm l):val l=0↔l=[]:=by
 constructor
 ·intro c;apply An;intro a;have:=h.pos a;omega
 rintro rfl;rfl
structure IntR (h:HF)(n:Nat)(c1 c2:Value)(x:Int)(l:List Nat):Prop where
 neg:c1=kz (decide (x<0))
 sl:Sl h n 1 c2 (u32s l)
 norm:Norm l
 val:val l=x.natAbs
theorem IntR.ext {x:Int}{l:List Nat}(r:IntR h n c1 c2 x l)(e:Ext n h h')(a:n≤n'):IntR h' n' c1 c2 x l:=⟨r.neg,r.sl.ext e a,r.norm,r.val⟩
theorem IntR.old {x:Int}{l:List Nat}{y:Option BF}(r:IntR h n c1 c2 x l)(c:yj m c2)(a:b<3*m):IntR (upd h b y) n c1 c2 x l:=⟨r.neg,r.sl.old c a,r.norm,r.val⟩
theorem vV (k:Nat)(h:HF)(n:Nat)(e:Bool)(a:Option Addr)(l c:Nat):CF (cal (k+1)) 95 [kz e,jx a l c] h n fun v h' n' w=>v=.agg #[kz (e&&decide (0<l)),jx a l c]∧n'=n+1∧w=[]∧Ext n h h':=by
 refine zu (fn:=Tryz.f95) R4 ?_;refine zN ?_;refine yd R5 ?_;refine zN ?_;cases e
 ·repeat refine zR ?_
  refine zK [kz false,jx a l c] R7 rfl (zh _ _ _) rfl (by show 3*n≤_;omega) ?_;refine zN ?_;exact xu R5 (zh _ _ _) rfl ⟨rfl,rfl,rfl,by rw [xq];exact Ext.upd zo⟩
 by_cases hl:0<l
 ·repeat refine zR ?_
  refine zK [kz true,jx a l c] R7 rfl (zh _ _ _) rfl (by show 3*n≤_;omega) ?_;refine zN ?_;exact xu R5 (zh _ _ _) rfl ⟨by rw [bO hl];rfl,rfl,rfl,by rw [xq];exact Ext.upd zo⟩
 repeat refine zR ?_
 refine zK [kz false,jx a l c] R7 rfl (zh _ _ _) rfl (by show 3*n≤_;omega) ?_;refine zN ?_;exact xu R5 (zh _ _ _) rfl ⟨by rw [aD hl];rfl,rfl,rfl,by rw [xq];exact Ext.upd zo⟩
theorem tE (m:Nat)(h:0<m∧m≤18446744073709551616):Ao .u64 (-(m:Int))=((18446744073709551616-m:Nat):Int):=by
 simp only [Ao,Cp,By];simp;omega
theorem uH (a:Nat)(h:0<a∧a<18446744073709551616):Ao .u64 (0-(a:Int))=((18446744073709551616-a:Nat):Int):=by
 simp only [Ao,Cp,By];simp;omega
theorem zgd (m:Nat)(b:m<18446744073709551616):Dig [m%4294967296,m/4294967296]∧val [m%4294967296,m/4294967296]=m:=by
 refine ⟨fun d a=>?_,?_⟩
 ·simp at a;rcases a with rfl|rfl<;>omega
 simp only [val];omega
theorem pn (k:Nat)(h:HF)(n:Nat)(x:Int)(F: -9223372036854775808≤x∧x<9223372036854775808):CF (cal (k+2)) 73 [jy .i64 x] h n fun v h' n' w=>w=[]∧n≤n'∧Ext n h h'∧∃c1 c2 l,v=.agg #[c1,c2]∧IntR h' n' c1 c2 x l∧yj n c2∧gP l≤2:=by
 refine zu (fn:=Tryz.f73) R4 ?_;obtain ⟨m,B⟩:∃m,m=x.natAbs:=⟨_,rfl⟩;have d:m<18446744073709551616:=zo;refine zN ?_;refine yd R5 ?_;refine zN ?_;generalize hh:upd h (3*n+2) _=h1;have u:∃e,h1 (3*n+2)=some (.row [kz false,jx none 0 0] e):=⟨_,by rw [←hh,zh];rfl⟩;have i:Ext n h h1:=by rw [←hh];exact Ext.upd zo
 repeat refine zR ?_
 refine vn (ik:=.u64) (a:=((if x<0 then 18446744073709551616-m else m:Nat):Int)) R6 ?_ ?_
 ·show some (jy .u64 (Ao .u64 x))=_;by_cases hn:x<0
  ·rw [eN hn,show x= -(m:Int) from zo,tE m zo]
  rw [cC hn,show x=(m:Int) from zo,xW,Ag d]
 refine Zl ?_;refine lQ [(0,jy .i64 x),(2,kS (some ⟨3*n+2,0,none⟩)),(3,jy .u64 (m:Int))] (fun h' n' w=>h1=h'∧n'=n+1∧w=[]) ?_ ?_
 ·by_cases hn:x<0
  ·rw [ze (by show kz (decide (x<0))=_;rw [bO hn])];refine zN ?_;refine st_I R5 ?_;refine zF (v:=jy .u64 (m:Int)) ⟨rfl,rfl,rfl,rfl,?_⟩ ?_
   ·show some (jy .u64 (Ao .u64 (0-((if x<0 then 18446744073709551616-m else m:Nat):Int))))=_;rw [eN hn,uH _ zo];congr 3;omega
   refine Za ?_;exact vv ⟨rfl,rfl,rfl,eP⟩ ⟨rfl,rfl,rfl⟩
  rw [za (by show kz (decide (x<0))=_;rw [aD hn])];refine zN ?_;exact vv ⟨rfl,rfl,by show jy .u64 ((if x<0 then 18446744073709551616-m else m:Nat):Int)=_;rw [cC hn],eP⟩ ⟨rfl,rfl,rfl⟩
 rintro t _ _ _ ⟨rfl,rfl,rfl⟩;refine Zf ?_;refine xC R7 ?_;refine zM ?_;refine yE (s:=32) R6 zo ?_;refine xC R7 ?_;have C:m/2^32%4294967296=m/4294967296:=zo;rw [C];refine vm (cs:=u32s [m%4294967296,m/4294967296]) R5 ?_;refine zB _ R5 (rJ k (l:=[m%4294967296,m/4294967296]) gN (.at_ zo (zh _ _ _) rfl zo (by simp [u32s]) rfl)) ?_;rintro G _ _ _ ⟨rfl,rfl,rfl,rfl,D⟩;refine zB _ R5 (vV k _ _ (decide (x<0)) _ _ _) ?_;generalize hL:yS [m%4294967296,m/4294967296]=L at*
 have o:gP L≤2:=by rw [←hL];exact wK _
 have c:val L=m:=by rw [←hL,vi,(zgd m d).2]
 have p:Norm L:=by rw [←hL];exact Norm.trim (zgd m d).1
 have j:(decide (x<0)&&decide (0<gP L))=decide (x<0):=by
  by_cases hn:x<0
  ·have:L≠[]:=fun e=>by rw [e] at c;simp [val] at c;omega
   have:0<gP L:=List.length_pos_iff.2 this;simp [this]
  simp [hn]
 rintro H y n2 _ ⟨rfl,rfl,rfl,f⟩;obtain ⟨e,A⟩:=u;have g:y (3*n+2)=some (.row [kz false,jx none 0 0] e):=by
  rw [f _ zo,zj zo];exact A
 refine zK [kz (decide (x<0)),jx (some ⟨3*(n+1)+2,0,none⟩) (gP L) 2] ⟨rfl,rfl,rfl,rfl,rfl,(by show [kz (decide (x<0)&&decide (0<gP L)),_]=_;rw [j]),rfl⟩ rfl g rfl (by show 3*n≤_;omega) ?_;refine zN ?_;refine xu R5 (zh _ _ _) rfl ⟨rfl,zo,fun b g=>?_,_,_,L,rfl,⟨rfl,?_,p,by rw [c,B]⟩,?_,o⟩
 ·rw [zj zo,f b zo,zj zo];exact i b g
 ·exact (D.ext f zo).old (m:=n+1) (show 3*(n+1)≤3*(n+1)+2 by omega) zo
 show 3*n≤3*(n+1)+2;omega
structure RatR (h:HF)(n:Nat)(n1 n2 d1 d2:Value)(q:Rat)(ln ld:List Nat):Prop where
 num:IntR h n n1 n2 q.num ln
 neg:d1=kz false
 sl:Sl h n 1 d2 (u32s ld)
 norm:Norm ld
 val:val ld=if q.den=1 then 0 else q.den
theorem RatR.ext (r:RatR h n n1 n2 d1 d2 q ln ld)(e:Ext n h h')(a:n≤n'):RatR h' n' n1 n2 d1 d2 q ln ld:=⟨r.num.ext e a,r.neg,r.sl.ext e a,r.norm,r.val⟩
theorem Norm.nil:Norm []:=⟨fun d a=>cA a nN,rfl⟩
theorem r_ok (k:Nat)(h:HF)(n:Nat)(x:Int)(g: -9223372036854775808≤x∧x<9223372036854775808):CF (cal (k+3)) 30 [jy .i64 x] h n fun v h' n' w=>w=[]∧n≤n'∧Ext n h h'∧∃n1 n2 ln,v=.agg #[n1,n2,kz false,jx none 0 0]∧RatR h' n' n1 n2 (kz false) (jx none 0 0) (x:Rat) ln []∧yj n n2∧gP ln≤2:=by
 refine zu (fn:=Tryz.f30) R4 ?_;refine zN ?_;refine yd R5 ?_;refine Zf ?_;refine zB _ R5 (pn k _ _ x g) ?_;rintro _ j n2 _ ⟨rfl,i,a,c1,c2,l,rfl,c,d,f⟩;refine zF (v:=.agg #[c1,c2,kz false,jx none 0 0]) R5 ?_;have e:ones [c1,c2,kz false,jx none 0 0]=true:=by
  rw [c.neg];show ones (c2::_)=true;rw [c.sl.ones];rfl
 refine zK [c1,c2,kz false,jx none 0 0] R7 e (by rw [a _ zo,zh]) rfl (by show 3*n≤_;omega) ?_;refine zN ?_;refine xu R5 (zh _ _ _) rfl ⟨rfl,zo,fun b m=>by rw [zj zo,a b zo,zj zo],c1,c2,l,rfl,⟨c.old d zo,rfl,.nil (.inl rfl),Norm.nil,by simp;rfl⟩,d.mono zo,f⟩
theorem fJ (k:Nat){x:Int}{l:List Nat}(c:IntR h n c1 c2 x l):VF (cal (k+1)) 74 [.agg #[c1,c2]] h n fun v=>v=jy .i64 x.sign:=by
 refine zI (fn:=Tryz.f74) R4 ?_;obtain ⟨a,b,d,rfl,g⟩:=c.sl.len;have i:=c.neg;subst i;refine zN ?_;refine we (cs:=[kz (decide (x<0)),jx a b d]) R5 ?_;refine Zk ?_;refine zl R6 (zh _ _ _) (v:=kz (decide (x<0))) R2 ?_;refine Za ?_;by_cases hx:x<0
 ·rw [ze (by show kz (decide (x<0))=_;rw [bO hx])];refine Zb ?_;exact retF _ rfl (zk rfl) R2 (by rw [Int.sign_eq_neg_one_of_neg hx];rfl)
 rw [za (by show kz (decide (x<0))=_;rw [aD hx])];refine Zf ?_;refine zl R6 (zh _ _ _) (v:=jx a b d) R2 ?_;have f:b=0↔x=0:=by
  have j:=c.norm.zero;have m:=c.val;rw [xv] at g;rw [←xd] at j;omega
 by_cases h0:x=0
 ·have:=f.2 h0;refine Zn ?_;exact retF _ rfl (zk rfl) R2 (by rw [h0];rfl)
 have:¬b=0:=fun e=>h0 (f.1 e);refine Zi ?_;exact retF _ rfl (zk rfl) R2 (by rw [Int.sign_eq_one_of_pos zo];rfl)
theorem bw (k:Nat)(a:RatR h n n1 n2 d1 d2 q ln ld):VF (cal (k+2)) 31 [.agg #[n1,n2,d1,d2]] h n fun v=>v=jy .i64 q.num.sign:=by
 refine zI (fn:=Tryz.f31) R4 ?_;refine zN ?_;refine we (cs:=[n1,n2,d1,d2]) R5 ?_;refine Zk ?_;refine zV (v:=.agg #[n1,n2]) R5 (zT R2 (zh _ _ _) rfl zb rfl) ?_;refine yk _ R5 (fJ k (a.num.ext (Ext.upd zo) zo)) ?_;rintro _ rfl;refine Za ?_;exact retF _ rfl (zk rfl) R2 rfl
section
variable {len:Nat}
theorem zbe (j:Nat)(z v:Value)(r:List Value):zw (pl (j+1) z++r) j [v]=pl j z++(v::r):=by
 unfold zw;have b:(pl (j+1) z++r).take j=pl j z:=by
  rw [List.replicate_succ',Aq,List.take_left' gN]
 have c:(pl (j+1) z++r).drop (j+[v].length)=r:=List.drop_left' gN;rw [b,c];rfl
theorem wj {l:List Nat}(h:l[j]?=some d):l.drop j=d::l.drop (j+1):=by
 obtain ⟨b,rfl⟩:=oc.1 h;exact Cb b
theorem zo7 (r a:Nat)(f:r<4294967296)(e:a<4294967296):r*2^32%18446744073709551616|||a=r*4294967296+a:=by
 have c:r*2^32%18446744073709551616=r*4294967296:=zo;rw [c];have:=Nat.two_pow_add_eq_or_of_lt (i:=32) (b:=a) zo r;rw [show r*4294967296=2^32*r from zo,←this]
theorem zns {r Vq a:Nat}(c:0<d)(b:V=d*Vq+r):(a+4294967296*V)/d=(r*4294967296+a)/d+4294967296*Vq∧(a+4294967296*V)%d=(r*4294967296+a)%d:=by
 have e:a+4294967296*V=(r*4294967296+a)+d*(4294967296*Vq):=by
  rw [b,A1,←Az,vT 4294967296 d,Az];omega
 rw [e,Nat.add_mul_div_left _ _ c,D6];exact ⟨rfl,rfl⟩
theorem nT (k:Nat){l:List Nat}(S:gP l<1099511627)(hl:Dig l)(f:0<d∧d<4294967296)(Z:Sl h n 1 (jx a len cap) (u32s l)):
  CF (cal (k+2)) 96 [jx a len cap,jy .u32 (d:Int)] h n fun v m G w=>w=[]∧n≤G∧Ext n h m∧∃u c' L,v=.tuple #[jx u (gP L) c',jy .u32 ((val l%d:Nat):Int)]∧Sl m G 1 (jx u (gP L) c') (u32s L)∧Norm L∧val L=val l/d∧yj n (jx u (gP L) c')∧gP L≤gP l:=by
 refine zu (fn:=Tryz.f96) R4 ?_;have D:len=gP l:=by
  obtain ⟨u,a5,a2,e,hl⟩:=Z.len;rw [xv] at hl;injection e with A P I
  omega
 subst D;refine Zv ?_;refine wO R9 zo ?_;rw [show zC (jy .u32 0)=[jy .u32 0] from rfl,zdy];refine Zl ?_;refine Za ?_;refine z9 (α:=Nat×List Nat×Nat) (fun x=>[(0,jx a (gP l) cap),(1,jy .u32 (d:Int)),(6,jx (some ⟨3*n+2,0,none⟩) (gP l) (gP l)),(7,jy .u64 ((x.2.2:Nat):Int)),(8,jy .i64 ((x.1:Int)-1))])
  (fun x m G w=>G=n+1∧w=[]∧Ext n h m∧x.1≤gP l∧(∃e,m (3*n+2)=some (.row (pl x.1 (jy .u32 0)++u32s x.2.1) e))∧x.1+gP x.2.1=gP l∧Dig x.2.1∧x.2.2<d∧val (l.drop x.1)=d*val x.2.1+x.2.2) (fun x=>x.1)
  (gP l,[],0) ⟨rfl,rfl,rfl,rfl,rfl,eP⟩ ⟨rfl,rfl,Ext.upd zo,eT,⟨_,by rw [zh,show u32s []=[] from rfl,A3]⟩,gN,fun d f=>cA f nN,f.1,by simp [val]⟩ (by show gP l<LL;unfold LL;omega) ?_
 rintro ⟨j,q,r⟩ t h1 _ _ ⟨rfl,rfl,g,hj,⟨e,i⟩,Y,M,F,o⟩;simp only at hj i Y M F o;refine zN ?_;cases j with
 |zero=>
  refine Zw ?_;refine zB _ R5 (rJ k (l:=q) zo (.at_ zo i rfl zo (by simp [u32s];omega) (by rw [Aa (by simp [u32s];omega)];simp))) ?_;rintro v' _ _ _ ⟨rfl,rfl,rfl,rfl,hs⟩;refine zM ?_;refine xC R7 ?_;refine Za ?_;have U:l.drop 0=l:=rfl;rw [U] at o;refine retH [jx (some ⟨3*n+2,0,none⟩) (gP (yS q)) (gP l),jy .u32 ((val l%d:Nat):Int)] ⟨rfl,?_,rfl⟩ ⟨rfl,by show n≤n+1;omega,g,_,_,yS q,rfl,hs,Norm.trim M,?_,?_,?_⟩
  ·have A:val l%d=r%4294967296:=by rw [o,Nat.mul_add_mod,Ag F,Ag zo]
   rw [A];rfl
  ·rw [vi,o,Nat.mul_add_div f.1,Cu F];omega
  ·show 3*n≤3*n+2;omega
  have:=wK q;omega
 |succ j=>
  have K:j<gP l:=zo;obtain ⟨c,p⟩:∃c,l[j]?=some c:=⟨l[j],by simp [K]⟩;have W:c<4294967296:=hl c (ns p);have C:=wj p;obtain ⟨b,a1,x,O,rfl,T,hx,hc,a4,a6,he⟩:=Z.inv zo;have B:O[a1+j]?=some (jy .u32 (c:Int)):=wE he (by rw [u32s,sr,p];rfl);have a0:h1 b=some x:=by rw [g b T];exact hx
  refine Ze ?_;refine Zc ?_;refine uo (s:=32) R6 zo ?_;refine Zg ?_;refine wp R8 zo ?_;refine zl R6 a0 (v:=jy .u32 (c:Int)) ⟨hc,(by rw [←B];congr 1;omega)⟩ ?_;refine uN R7 ?_;rw [Ag (show c<18446744073709551616 by omega)];refine tH R6 zo ?_;rw [zo7 r c zo W];refine Za ?_;obtain ⟨R,J⟩:∃R,R=r*4294967296+c:=⟨_,rfl⟩;rw [←J];have H:R/d<4294967296:=by
   rw [BM f.1,J];have:r*4294967296+c<(r+1)*4294967296:=zo;have h2:(r+1)*4294967296≤d*4294967296:=Ab _ F;omega
  have a3:R<18446744073709551616:=zo;refine Zg ?_;refine Zg ?_;refine uN R7 ?_;rw [Ag (show d<18446744073709551616 by omega)];refine uq R6 zo ?_;refine xC R7 ?_;rw [Ag H];refine wp R8 zo ?_;refine y0 (cs:=[jy .u32 ((R/d:Nat):Int)]) R8 i (by simp [u32s]) (by show 3*n≤_;omega) ?_;rw [show 0+((j+1:Nat)-1:Int).toNat*1=j from zo,zbe];refine Zm ?_;refine uN R7 ?_;rw [Ag (show d<18446744073709551616 by omega)];refine qU R6 zo ?_;refine Zl ?_;obtain ⟨A,P⟩:=zns (a:=c) f.1 o;refine goOn (j,(R/d)::q,R%d) gN ⟨rfl,rfl,rfl,rfl,by show jy .i64 _=jy .i64 _;congr 1;omega,eP⟩ ⟨rfl,rfl,fun b S=>?_,by show j≤_;omega,⟨_,zh _ _ _⟩,by show j+(gP q+1)=_;omega,?_,Bo _ f.1,?_⟩
  ·exact (zj zo).trans (g b S)
  ·intro y N;rcases List.mem_cons.1 N with rfl|N
   ·exact H
   exact M y N
  show val (l.drop j)=d*(R/d+4294967296*val q)+R%d;rw [C];have I:=Bw (c+4294967296*val (l.drop (j+1))) d;rw [A,P,←J] at I;exact I.symm
end
section
variable {len:Nat}
def decD (V:Nat):List Nat:=if h:V=0 then [] else decD (V/10)++[V%10]
termination_by V
decreasing_by omega
theorem xH:decD 0=[]:=by rw [decD];simp
theorem wT (h:V≠0):decD V=decD (V/10)++[V%10]:=by rw [decD,dif_neg h]
theorem gK {c:Nat}(b:c<10)(h:V≠0∨c≠0):decD (10*V+c)=decD V++[c]:=by
 rw [wT zo,show (10*V+c)/10=V from zo,show (10*V+c)%10=c from zo]
theorem zjq:decD V=[]↔V=0:=by
 constructor
 ·intro h;apply An;intro b;rw [wT b] at h;simp at h
 rintro rfl;exact xH
def u8s (l:List Nat):List Value:=l.map fun d:Nat=>jy .u8 (d:Int)
theorem qO (l:List Nat):gP (u8s l)=gP l:=by simp [u8s]
theorem zcn (l:List Nat):oe (u8s l)=some (l.map Bh):=by
 induction l with
 |nil=>rfl
 |cons d l ih=>
  show (match oe (u8s l) with|some r=>some (Bh (d:Int).toNat::r)|none=>none)=_;rw [ih];simp
theorem qB (l:List Nat):ones (u8s l)=true:=by
 induction l with
 |nil=>rfl
 |cons d l ih=>exact ih
def decB (V:Nat):List Nat:=(decD V).map (48+ ·)
def zgi (V:Nat):ByteArray:=⟨⟨if V=0 then [48] else (decB V).map Bh⟩⟩
def vJ (V:Nat):Nat:=if h:V=0 then 0 else vJ (V/1000000000)+1
termination_by V
decreasing_by omega
theorem mc:vJ 0=0:=by rw [vJ];simp
theorem kB (h:V≠0):vJ V=vJ (V/1000000000)+1:=by rw [vJ,dif_neg h]
theorem zd6:∀(m V:Nat),V<1000000000^m→vJ V≤m:=by
 intro m;induction m with
 |zero=>(intro V h;have:V=0:=by simpa using h);subst this;rw [mc];exact AK _
 |succ m ih=>
  intro V h;by_cases h0:V=0
  ·subst h0;rw [mc];omega
  rw [kB h0];have:=ih (V/1000000000) (by rw [BM zo];rw [Ar] at h;exact h);omega
theorem kD {l:List Nat}(h:Dig l):vJ (val l)≤2*gP l:=by
 apply zd6;refine tv (zc3 h) ?_;rw [Ek];exact D7 zd _
def valP:List Nat→Nat
 |[]=>0
 |d::r=>d+1000000000*valP r
theorem fi (a b:List Nat):valP (a++b)=valP a+1000000000^gP a*valP b:=by
 induction a with
 |nil=>simp [valP]
 |cons d a ih=>
  simp only [EH,valP,ih,Au,Ar,A1];rw [←Az,vT (1000000000^gP a) 1000000000];omega
theorem se {E:Env}{d:TypeId}{c:Nat}{B:List Nat}(b:E.und ty=some (.slice d)∧E.und e=some .string∧E.und d=some (.int .u8))(i:argS h 1 (jx a len c) len (u8s B)):qP E ty e (jx a len c) h=some (kF ⟨⟨B.map Bh⟩⟩):=by
 obtain ⟨b,f,g⟩:=b;simp only [qP,b,f,g,i.2,zcn]
theorem mO {c:Nat}(b:c<10)(h:V≠0∨c≠0):decB (10*V+c)=decB V++[48+c]:=by
 unfold decB;rw [gK b h];simp
theorem zly (p s:Nat):10*(p/10^(s+1))+p/10^s%10=p/10^s:=by
 have:p/10^(s+1)=p/10^s/10:=by rw [Ar,Nat.div_div_eq_div_mul]
 rw [this];omega
theorem zmp (s:Nat):10^(s+1)/10=10^s:=by rw [Ar];omega
theorem zmo {s:Nat}(h:s≤9):10^s≤1000000000:=by
 have:=Ac (n:=10) zo h;omega
theorem tu (V:Nat):gP (decB V)=gP (decD V):=by simp [decB]
theorem gG (k:Nat){x:Int}{l:List Nat}(q:IntR h n c1 c2 x l)(hb:gP l<1000000):VF (cal (k+3)) 56 [.agg #[c1,c2]] h n fun v=>v=kF (zgi x.natAbs):=by
 refine zI (fn:=Tryz.f56) R4 ?_;obtain ⟨a,len,y,rfl,ad⟩:=q.sl.len;have ay:len=gP l:=by rw [xv] at ad;omega
 subst ay;have ae:=q.neg;subst ae;have O:=q.val;refine zN ?_;refine we (cs:=[kz (decide (x<0)),jx a (gP l) y]) R5 ?_;refine Zk ?_;refine zl R6 (zh _ _ _) (v:=jx a (gP l) y) R2 ?_;refine zM ?_;by_cases h0:l=[]
 ·have:gP l=0:=by rw [h0];rfl
  refine Zn ?_;have b6:x.natAbs=0:=by rw [←O,h0];rfl
  exact retF _ rfl (zk rfl) R2 (by rw [b6];rfl)
 have bf:gP l≠0:=fun e=>h0 (xd.1 e);refine Zi ?_;repeat refine zR ?_
 refine zl R6 (zh _ _ _) (v:=jx a (gP l) y) R2 ?_;refine Za ?_;generalize hh:upd h (3*n+2) _=h1;have ac:Ext n h h1:=by rw [←hh];exact Ext.upd zo
 refine z9 (α:=Value×Option Addr×Nat×List Nat×List Nat) (fun z=>[(3,z.1),(4,jx z.2.1 (gP z.2.2.2.1) z.2.2.1)])
  (fun z i g w=>w=[]∧n+1≤g∧Gro i (n+1) g 151 1 z.1 (gP z.2.2.2.2) (u32s z.2.2.2.2)∧Sl i g 1 (jx z.2.1 (gP z.2.2.2.1) z.2.2.1) (u32s z.2.2.2.1)∧Norm z.2.2.2.1∧gP z.2.2.2.1≤gP l∧gP z.2.2.2.2+vJ (val z.2.2.2.1)≤2*gP l∧(∀p∈z.2.2.2.2,p<1000000000)∧val l=valP z.2.2.2.2+1000000000^gP z.2.2.2.2*val z.2.2.2.1)
  (fun z=>vJ (val z.2.2.2.1)) (jx none 0 0,a,y,l,[]) ⟨rfl,rfl,eP⟩ ⟨rfl,eT,.nil,q.sl.ext ac zo,q.norm,eT,by have:=kD q.norm.1;simp;omega,gN,by simp [valP]⟩ (by show vJ (val l)<LL;have:=kD q.norm.1;unfold LL;omega) ?_
 rintro ⟨v3,a4,c4,L,P⟩ t h2 u w2 ⟨rfl,bh,H,hs,hN,ah,aj,hP,J⟩;simp only at H hs hN ah aj hP J;refine zN ?_;by_cases hL0:L=[]
 ·have a2:gP L=0:=by rw [hL0];rfl
  have J:val l=valP P:=by rw [J,hL0];simp [val]
  refine Zi ?_;obtain ⟨a3,rfl,_⟩:=H.shape;refine Za ?_;have b9:gP P<4000000:=zo;refine z9 (α:=Nat×Value×Nat) (fun z=>[(3,jx a3 (gP P) (gP P)),(7,z.2.1),(8,jy .i64 ((z.1:Int)-1))])
   (fun z i g w=>w=[]∧u≤g∧z.1≤gP P∧Ext u h2 i∧z.2.2=valP (P.drop z.1)∧Gro i u g 5 1 z.2.1 (gP (decD z.2.2)) (u8s (decB z.2.2))∧gP (decD z.2.2)≤9*(gP P-z.1)) (fun z=>z.1)
   (gP P,jx none 0 0,0) ⟨rfl,rfl,rfl,eP⟩ ⟨rfl,eT,eT,Ext.refl _ _,by simp [valP],by show Gro _ _ _ _ _ _ (gP (decD 0)) (u8s (decB 0));rw [decB,xH];exact .nil,by rw [xH];simp⟩ (by show gP P<LL;unfold LL;omega) ?_
  rintro ⟨j,v7,V⟩ t h4 n4 w4 ⟨rfl,b0,hj,b7,K,C,ap⟩;simp only at hj K C ap;refine zN ?_;cases j with
  |zero=>
   refine Zj ?_;obtain ⟨a7,rfl,_⟩:=C.shape;have am:V=x.natAbs:=by rw [K,←O,J];rfl
   have ak:V≠0:=by have:=q.norm.pos h0;omega
   repeat refine zR ?_
   refine qS R5 (se R3 (tX C.sl)) ?_;refine Za ?_;exact retF _ rfl (zk rfl) R2 (by rw [←am,zgi,cC ak];rfl)
  |succ j=>
   have av:j<gP P:=zo;obtain ⟨p,f⟩:∃p,P[j]?=some p:=⟨P[j],by simp [av]⟩;have b1:p<1000000000:=hP p (ns f);have W:=wj f;have b2:=H.sl;obtain ⟨b3,S,x3,ag,rfl,an,R,ao,ba,bc,ar⟩:=b2.inv zo;have T:ag[S+j]?=some (jy .u32 (p:Int)):=wE ar (by rw [u32s,sr,f];rfl);refine Zn ?_;refine z9 (α:=Nat×Value×Nat) (fun z=>[(3,jx (some ⟨b3,S,none⟩) (gP P) (gP P)),(7,z.2.1),(8,jy .i64 (((j+1:Nat):Int)-1)),(9,jy .u32 ((10^z.1/10:Nat):Int))])
    (fun z i g w=>w=[]∧u≤g∧z.1≤9∧Ext u h2 i∧z.2.2=V*10^(9-z.1)+p/10^z.1∧Gro i u g 5 1 z.2.1 (gP (decD z.2.2)) (u8s (decB z.2.2))∧gP (decD z.2.2)≤9*(gP P-(j+1))+(9-z.1)) (fun z=>z.1)
    (9,v7,V) ⟨rfl,rfl,rfl,congrArg (jy .u32) (show (100000000:Int)=((10^9/10:Nat):Int) from by decide),eP⟩ ⟨rfl,b0,eT,b7,by show V=V*10^0+p/10^9;omega,C,by show gP (decD V)≤_;omega⟩ (by show 9<LL;unfold LL;omega) ?_
   rintro ⟨s,v8,U⟩ t h5 n5 w5 ⟨rfl,a1,b5,G,hU,o,aa⟩;simp only at b5 hU o aa;have af:h5 b3=some x3:=by rw [G b3 an];exact R
   obtain ⟨a8,rfl,_⟩:=o.shape;refine zN ?_;cases s with
   |zero=>
    have hz:((10^0/10:Nat):Int)=0:=rfl;refine Zi ?_;refine goOn (j,jx a8 (gP (decD U)) (gP (decD U)),U) gN ⟨rfl,rfl,by show jy .i64 _=jy .i64 _;congr 1;omega,eP⟩ ⟨rfl,a1,by show j≤_;omega,G,?_,o,by show gP (decD U)≤9*(gP P-j);omega⟩;show U=valP (P.drop j);rw [W,hU];simp only [valP,←K];omega
   |succ s=>
    have aq:10^(s+1)/10=10^s:=zmp s;have bd:=zmo (s:=s) zo;have bb:0<10^s:=Bz zo;rw [aq];generalize hD:10^s=D at*
    refine Zr ?_;refine wp R8 zo ?_;refine zl R6 af (v:=jy .u32 (p:Int)) ⟨ao,(by rw [←T];congr 1;omega)⟩ ?_;refine zM ?_;refine xM R6 zo ?_;refine wt (b:=10) R6 zo ?_;refine yO (a:=48) R6 zo ?_;refine qW R7 ?_;obtain ⟨c,hc⟩:∃c,c=p/D%10:=⟨_,rfl⟩;have M:c<10:=zo;rw [←hc,Ag (show 48+c<256 by omega)];have Y:V*10^(9-s)+p/D=10*U+c:=by
     have e1:=zly p s;rw [hD] at e1;rw [hU,show 9-s=(9-(s+1))+1 from zo,Ar,hc,←e1];have:10^(s+1)=10^(s+1):=rfl;generalize p/10^(s+1)=A;generalize 10^(9-(s+1))=B;rw [A1,←Az,←Az];have:V*B*10=10*V*B:=by rw [vT (V*B) 10,Az]
     omega
    refine Za ?_;have F:gP (decD U)=0↔U=0:=by rw [xd,zjq]
    by_cases hA:U=0∧c=0
    ·have ax:=F.2 hA.1;refine ZB ?_;refine xM (b:=10) R6 zo ?_;refine Za ?_;refine goOn (s,jx a8 (gP (decD U)) (gP (decD U)),U) gN ⟨rfl,rfl,rfl,by show jy .u32 _=jy .u32 ((10^s/10:Nat):Int);rw [hD],eP⟩ ⟨rfl,a1,by show s≤9;omega,G,?_,o,by show gP (decD U)≤_;omega⟩;show U=V*10^(9-s)+p/10^s;rw [hD,Y];omega
    have ab:gP (decD (10*U+c))=gP (decD U)+1:=by rw [gK M zo];simp
    by_cases hU0:U=0<;>
    (have ax:=F
     refine Zr ?_;refine vm (cs:=u8s [48+c]) R5 ?_;refine iE (m:=1) R8 zd (o.ext (Ext.upd zo) zs) (yH (zh _ _ _) R2) eT zo rfl rfl (by show n≤_∧_;omega) ?_;intro v9 h9 a0 b8 be;obtain ⟨a9,rfl,_⟩:=a0.shape;refine Za ?_;refine st_I R5 ?_;refine xM (b:=10) R6 zo ?_;refine Za ?_;refine goOn (s,jx a9 (gP (decD U)+1) (gP (decD U)+1),10*U+c) gN ⟨rfl,rfl,rfl,by show jy .u32 _=jy .u32 ((10^s/10:Nat):Int);rw [hD],eP⟩ ⟨rfl,by show u≤n5+1+1;omega,by show s≤9;omega,fun b hb=>?_,?_,?_,by show gP (decD (10*U+c))≤_;omega⟩
     ·exact (b8 b hb).trans ((zj zo).trans (G b hb))
     ·show 10*U+c=V*10^(9-s)+p/10^s;rw [hD,Y]
     ·show Gro _ _ _ _ _ _ (gP (decD (10*U+c))) (u8s (decB (10*U+c)));rw [ab,mO M zo,show u8s (decB U++[48+c])=u8s (decB U)++u8s [48+c] from by simp [u8s]];exact a0)
 have a2:gP L≠0:=fun e=>hL0 (xd.1 e);have al:val L≠0:=by have:=hN.pos hL0;omega
 have b1:=kB al;refine Zr ?_;refine zB _ R5 (nT k (d:=1000000000) zo hN.1 zo hs) ?_;rintro _ h3 n3 _ ⟨rfl,az,R,a5,c5,I,rfl,b4,ai,N,au,bg⟩;refine Za ?_;obtain ⟨a3,rfl,_⟩:=H.shape;repeat refine zR ?_
 refine vm (cs:=u32s [val L%1000000000]) R5 ?_;refine iE (m:=1) R8 zd ((H.ext R az).ext (Ext.upd zo) zs) (yH (zh _ _ _) R2) eT zo rfl rfl (by show n≤_∧_;omega) ?_;intro v' h6 Z bi aw;obtain ⟨a6,rfl,_⟩:=Z.shape;refine Zl ?_;refine goOn (jx a6 (gP P+1) (gP P+1),a5,c5,I,P++[val L%1000000000]) ?_ ⟨rfl,rfl,eP⟩ ⟨rfl,by show n+1≤n3+1+1;omega,?_,?_,ai,by show gP I≤_;omega,?_,?_,?_⟩
 ·show vJ (val I)<vJ (val L);rw [N];omega
 ·show Gro _ _ _ _ _ _ (gP (P++[_])) (u32s (P++[_]));rw [fj,nn];exact Z
 ·exact (b4.ext (Ext.upd zo) zs).app aw H.below au zs
 ·show (gP (P++[_]))+vJ (val I)≤_;rw [N,nn,xl];omega
 ·intro p f;rcases Al.1 f with f|f
  ·exact hP p f
  simp at f;subst f;omega
 show val l=valP (P++[_])+1000000000^gP (P++[_])*val I;rw [fi,nn,xl,Ar,N,J];simp only [valP];have:=Bw (val L) 1000000000;rw [Az,Nat.add_assoc,←A1];congr 2;omega
end
theorem xm:∀(m V:Nat),V<10^m→gP (decD V)≤m:=by
 intro m;induction m with
 |zero=>(intro V h;have:V=0:=by simpa using h);subst this;rw [xH];exact AK _
 |succ m ih=>
  intro V h;by_cases h0:V=0
  ·subst h0;rw [xH];simp
  rw [wT h0,nn];have:=ih (V/10) (by rw [BM zo];rw [Ar] at h;exact h);simp;omega
def decT (V:Nat):List UInt8:=if V=0 then [48] else (decB V).map Bh
theorem gJ (V:Nat):zgi V=⟨⟨decT V⟩⟩:=rfl
theorem zaj {l:List Nat}(h:Dig l):gP (decT (val l))≤10*gP l+1:=by
 unfold decT;split
 ·simp
 rw [oo,tu];have:=xm (10*gP l) (val l) (tv (zc3 h) (by rw [Ek];exact D7 zd _));omega
def ratT (q:Rat):List UInt8:=(if q.num<0 then [45] else [])++(decT q.num.natAbs++(if q.den=1 then [] else 47::decT q.den))
section
variable {X:CtxF}{t:TF}{h:HF}{Q:SV→Prop}{d:Tmp}
theorem cW {a b:List UInt8}(c:sh X ops t o d (o.op=.binOp .add ty x y ty'∧evF t x=kF ⟨⟨a⟩⟩∧evF t y=kF ⟨⟨b⟩⟩))(hl:gP a+gP b≤1099511627776)
  (k:EO X ops r ⟨upd t d (kF ⟨⟨a++b⟩⟩),h,n,w⟩ Q):EO X ops (o::r) ⟨t,h,n,w⟩ Q:=by
 refine ZC c ?_ k;simp only [binE,strE,eN hl]
end
theorem IntR.of_den {h:HF}{n:Nat}(a:RatR h n n1 n2 d1 d2 q ln ld)(c:q.den≠1):IntR h n d1 d2 (q.den:Int) ld:=by
 have b:=a.val;rw [cC c] at b;exact ⟨by rw [a.neg];simp,a.sl,a.norm,by rw [b];simp⟩
theorem nw (k:Nat){h:HF}{n:Nat}(l:RatR h n n1 n2 d1 d2 q ln ld)(B:gP ln<1000000∧gP ld<1000000):VF (cal (k+4)) 21 [.agg #[n1,n2,d1,d2]] h n fun v=>v=kF ⟨⟨ratT q⟩⟩:=by
 refine zI (fn:=Tryz.f21) R4 ?_;have f:=l.num;have u:=f.neg;subst u;obtain ⟨m,A,b,rfl,p⟩:=l.sl.len;have i:A=gP ld:=by rw [xv] at p;omega
 subst i;have C:=zaj f.norm.1;rw [f.val] at C;refine zN ?_;refine we (cs:=[kz (decide (q.num<0)),n2,d1,jx m (gP ld) b]) R5 ?_;refine Zk ?_;refine zV (v:=.agg #[kz (decide (q.num<0)),n2]) R5 (zT R2 (zh _ _ _) rfl zb rfl) ?_;refine yk _ R5 (gG k (f.ext (Ext.upd zo) zo) B.1) ?_;rintro _ rfl;rw [gJ];refine Zk ?_;refine zl R6 (zh _ _ _) (v:=kz (decide (q.num<0))) R2 ?_;refine zN ?_;generalize hh:upd h (3*n+2) _=h1;have s:Ext n h h1:=by rw [←hh];exact Ext.upd zo
 have c:∃e,h1 (3*n+2)=some (.row [kz (decide (q.num<0)),n2,d1,jx m (gP ld) b] e):=⟨_,by rw [←hh,zh]⟩;refine lQ [(1,kS (some ⟨3*n+2,0,none⟩)),(3,kF ⟨⟨(if q.num<0 then [45] else [])++decT q.num.natAbs⟩⟩)] (fun D G w=>h1=D∧G=n+1∧w=[]) ?_ ?_
 ·by_cases hn:q.num<0
  ·rw [ze (by show kz (decide (q.num<0))=_;rw [bO hn])];refine Zf ?_;refine cW (a:=[45]) R6 (by simp;omega) ?_;refine Za ?_;exact vv ⟨rfl,by rw [eN hn];rfl,eP⟩ ⟨rfl,rfl,rfl⟩
  rw [za (by show kz (decide (q.num<0))=_;rw [aD hn])];refine zN ?_;exact vv ⟨rfl,by rw [cC hn];rfl,eP⟩ ⟨rfl,rfl,rfl⟩
 rintro t _ _ _ ⟨rfl,rfl,rfl⟩;obtain ⟨e,c⟩:=c;refine Zf ?_;refine zl R6 c (v:=jx m (gP ld) b) R2 ?_;have j:gP ld=0↔q.den=1:=by
  rw [xd,←l.norm.zero,l.val];have:=q.den_pos;split<;>omega
 by_cases hd:q.den=1
 ·have:=j.2 hd;refine Zi ?_;exact retF _ rfl (zk rfl) R2 (by rw [ratT,eN hd,A3];rfl)
 have F:¬(gP ld)=0:=fun e=>hd (j.1 e);have g:=IntR.of_den l hd;have i:=zaj g.norm.1;rw [g.val,sa] at i;refine Zr ?_;refine zV (v:=.agg #[d1,jx m (gP ld) b]) R5 (zT R2 c rfl zb rfl) ?_;refine yk _ R5 (gG k (g.ext s zo) B.2) ?_;rintro _ rfl;rw [gJ,sa];refine cW (a:=[47]) R6 (by simp;omega) ?_;refine cW R6 ?_ ?_
 ·simp only [nn,Au,List.length_nil];split<;>simp<;>omega
 refine Zl ?_;exact retF _ rfl (zk rfl) R2 (by rw [ratT,cC hd];show kF ⟨⟨((if q.num<0 then [45] else [])++decT q.num.natAbs)++([47]++decT q.den)⟩⟩=_;rw [Aq];rfl)
section
variable {len:Nat}
def qOp (E:Env):Op→Bool
 | .convert _ d _=>(match E.und d with|some (.int _)=>true|_=>false)
 |o=>Er (cls o) 2
theorem zkt {E:Env}{o:Op}(h:qOp E o=true):cls o<2∨∃t d x k,o=.convert t d x∧E.und d=some (.int k):=by
 unfold qOp at h;split at h
 ·rename_i t d x;split at h
  ·rename_i k hk;exact .inr ⟨t,d,x,k,rfl,hk⟩
  cases h
 exact .inl (Am h)
theorem mX {E:Env}{t d:TypeId}{k:IntKind}(h:E.und d=some (.int k))(v:Value):uk E t d v=none:=by
 unfold uk;rw [h];split<;>simp_all
theorem qg {E:Env}{t d:TypeId}{k:IntKind}(h:E.und d=some (.int k))(v:Value)(g:HF):qP E t d v g=none:=by
 unfold qP;rw [h];split<;>simp_all
theorem de {X:CtxF}{ops:List Oper}:∀(l:List Oper) (ms:List Nat) (i:Nat) (s:SV) (ld:List (Nat×Nat)),gP l≤gP ms→l.all (fun o=>qOp X.E o.op)=true→yi X ops l ms i ⟨s,[],ld,[]⟩=seqF X ops l s:=by
 intro l;induction l with
 |nil=>intro ms i s ld _ _;simp [yi,seqF]
 |cons o l ih=>
  intro ms i s ld C g;cases ms with
  |nil=>simp at C
  |cons m ms=>
   simp only [EP,AT] at g;have f:gP l≤gP ms:=by simpa using C
   unfold yi seqF;simp only;cases hw:zi ops s.t o with
   |false=>
    simp only;congr 1;funext s1;exact ih ms (i+1) s1 ld f g.2
   |true=>
    simp only;unfold pq opF;rcases zkt g.1 with F|⟨t,d,x,k,u,A⟩
    ·cases q:cls o.op with
     |zero=>
      simp only [q];cases yA X.E o.op (evF s.t) with
      |none=>rfl
      |some v=>
       simp only;congr 1;funext s1;exact ih ms (i+1) s1 ld f g.2
     |succ c=>
      cases c with
      |zero=>
       simp only [q,wQ];cases mu X.E o.op (evF s.t) s.h with
       |none=>rfl
       |some vb=>
        obtain ⟨v,b⟩:=vb;simp only [wz,ov,A4];congr 1;funext s1;exact ih ms (i+1) s1 _ f g.2
      |succ c=>omega
    have q:cls o.op=4:=by rw [u];rfl
    have D:mkE X.E o.op (evF s.t)=none:=by rw [u];exact mX A _
    simp only [q,D];cases hp:yA X.E o.op (evF s.t) with
    |none=>
     rw [u];simp only [qg A]
    |some v=>
     rw [u];simp only [qg A];congr 1;funext s1;exact ih ms (i+1) s1 ld f g.2
theorem xV {X:CtxF}{ops:Array Oper}{s:SV}{Q:Ex→SV→Prop}(f:ops.toList.all (fun o=>qOp X.E o.op)=true):EC X (.region id ops true) s Q↔EO X ops.toList ops.toList s (Q .normal):=by
 unfold EC EO;rw [xz];rw [de _ _ _ _ _ (by rw [gb];simp) f];cases h:seqF X ops.toList ops.toList s with
 |none=>simp
 |some r=>simp only [tf];simp
section
variable {X:CtxF}{t:TF}{h:HF}{Q:SV→Prop}{d a:Tmp}
theorem xt {f:α→Value}{l:List α}{dv:α}{i:Operand}(u:zi ops t o=true∧o.dst=some a∧zv X.nt (some a)=true∧o.op=.indexAddr ty x i∧X.E.und ty=some (.slice e)∧X.E.inf e=some (1,bt,z)∧evF t x=v)(G:Sl h m 1 v (l.map f))(s:evF t i=jy ik ji∧ji=(j:Int))(A:l[j]?=some dv)
  (H:∀p,zi ops (upd t a p) o2=true)(g:o2.dst=some d∧zv X.nt (some d)=true∧o2.op=.load e2 (.tmp a)∧GL.isAgg X.E e2=some false)
  (k:∀p,EO X ops r ⟨upd (upd t a p) d (f dv),h,n,w⟩ Q):EO X ops (o::o2::r) ⟨t,h,n,w⟩ Q:=by
 obtain ⟨u,M,S,T,U,O,W⟩:=u;obtain ⟨s,C⟩:=s;obtain ⟨g,D,F,K⟩:=g;subst C;have Z:=(oc.1 A).1;obtain ⟨ad,len,cap,rfl,R⟩:=G.len;simp only [oo,AO] at R;obtain ⟨b,off,xb,J,rfl,_,I,L,_,Y,N⟩:=G.inv zo;have q:J[off+j]?=some (f dv):=wE N (by rw [sr,A];rfl);refine wp ⟨u,M,S,T,U,O,W,s⟩ zo ?_;refine zl ⟨(H _),g,D,F,K,(zh _ _ _)⟩ I (v:=f dv) ⟨L,(by rw [←q];congr 1;omega)⟩ ?_;exact k _
theorem uM {c:Nat}{D:TD}(f:sh X ops t o d (o.op=.convert ty e x∧evF t x=jy ik (c:Int)∧X.E.und ty=some D∧X.E.und e=some (.int .u64)))(g:c<18446744073709551616)
  (k:EO X ops r ⟨upd t d (jy .u64 (c:Int)),h,n,w⟩ Q):EO X ops (o::r) ⟨t,h,n,w⟩ Q:=by
 obtain ⟨f,i,q,s,A,u,l⟩:=f;refine uN ⟨f,i,q,s,A,u,l⟩ ?_;rw [Ag g];exact k
theorem nK {c:Nat}{D:TD}(f:sh X ops t o d (o.op=.convert ty e x∧evF t x=jy ik (c:Int)∧X.E.und ty=some D∧X.E.und e=some (.int .u32)))(g:c<4294967296)
  (k:EO X ops r ⟨upd t d (jy .u32 (c:Int)),h,n,w⟩ Q):EO X ops (o::r) ⟨t,h,n,w⟩ Q:=by
 obtain ⟨f,i,q,s,A,u,l⟩:=f;refine xC ⟨f,i,q,s,A,u,l⟩ ?_;rw [Ag g];exact k
theorem zU {d:Tmp}(k:EO X ops r ⟨upd t d v,h,n,w⟩ Q)(f:EO X ops r ⟨upd t d v,h,n,w⟩ Q→EO X ops (o::r) ⟨t,h,n,w⟩ Q:=by first|exact pI R6 zo|exact cP R6 zo|exact pJ R6 zo|exact nJ R6 zo|exact ko R6 zo|exact iB R6 zo|exact kq R6 zo|exact iD R6 zo|exact cQ R6 zo|exact cT R6 zo|exact k7 R6 zo|exact k8 R6 zo|exact qV R6|exact zdm R6|exact zbd R6|exact fG R6|exact fH R6|exact iA R6|exact ur R6 zo|exact kn R6 zo|exact uM R7 zo|exact nK R7 zo|exact wV R6 zo|exact yO R6 zo|exact xL R6 zo|exact xL (b:=1) R6 zo|exact km R6 zo|exact wa R6 zo|exact xc R6 zo|exact yE (s:=32) R6 zo|exact st_I R5|exact st_B R5|exact st_S R5|exact st_P R5|exact st_T R5|exact st_A R5|exact st_U R5|exact zF (v:=.pointer none) R5|exact iz R3):EO X ops (o::r) ⟨t,h,n,w⟩ Q:=f k
theorem splice_one (c:List Value)(j:Nat)(v:Value)(h:j<gP c):zw c j [v]=c.set j v:=by
 unfold zw;rw [En,eN h];rfl
theorem nI {i:Operand}{q:Nat}(l:zi ops t o=true∧o.dst=some a∧zv X.nt (some a)=true∧o.op=.indexAddr ty x i∧X.E.und ty=some (.slice e)∧X.E.inf e=some (1,bt,z)∧evF t x=jx (some ⟨b,0,none⟩) len cap∧evF t i=jy ik ji)(u:ji=(j:Int))(A:j<len∧j<gP c)(G:h b=some (.row c e3))(g:3*X.n0≤b)
  (D:∀p,zi ops (upd t a p) o2=true)(f:o2.dst=none∧o2.op=.store e2 (.tmp a) y∧X.E.inf e2=some (1,q,z2))(O:∀p,zC (evF (upd t a p) y)=[v])(F:ones [v]=true)
  (k:∀p,EO X ops r ⟨upd t a p,upd h b (some (.row (c.set j v) e3)),n,w⟩ Q):EO X ops (o::o2::r) ⟨t,h,n,w⟩ Q:=by
 obtain ⟨l,H,K,L,M,I,N,J⟩:=l;obtain ⟨f,C,s⟩:=f;subst u;refine wp ⟨l,H,K,L,M,I,N,J⟩ zo ?_;refine y0 ⟨(D _),f,C,s,(zh _ _ _),(O _),rfl,F⟩ G zo g ?_;rw [show 0+(j:Int).toNat*1=j from zo,splice_one c j v A.2];exact k _
theorem xa {i:Operand}{q:Nat}(l:zi ops t o=true∧o.dst=some a∧zv X.nt (some a)=true∧o.op=.indexAddr ty x i∧X.E.und ty=some (.slice e)∧X.E.inf e=some (1,bt,z)∧evF t x=jx (some ⟨b,off,none⟩) len cap∧evF t i=jy ik ji)(u:ji=(j:Int))(A:j<len∧off+j<gP c)(G:h b=some (.row c e3))(g:b<3*X.n0)
  (D:∀p,zi ops (upd t a p) o2=true)(f:o2.dst=none∧o2.op=.store e2 (.tmp a) y∧X.E.inf e2=some (1,q,z2))(O:∀p,zC (evF (upd t a p) y)=[v])(F:ones [v]=true)
  (k:∀p,EO X ops r ⟨upd t a p,upd h b (some (.row (c.set (off+j) v) e3)),n,b::w⟩ Q):EO X ops (o::o2::r) ⟨t,h,n,w⟩ Q:=by
 obtain ⟨l,H,K,L,M,I,N,J⟩:=l;obtain ⟨f,C,s⟩:=f;subst u;refine wp ⟨l,H,K,L,M,I,N,J⟩ zo ?_;refine iw (D _) f C s (zh _ _ _) (O _) rfl F G zo g ?_;rw [show off+(j:Int).toNat*1=off+j from zo,splice_one c (off+j) v A.2];exact k _
end
theorem qf (l:List Nat)(j d:Nat):(u32s l).set j (jy .u32 (d:Int))=u32s (l.set j d):=by
 unfold u32s;rw [FZ]
theorem jj (n:Nat):rep n [jy .u32 0]=u32s (pl n 0):=by
 induction n with
 |zero=>rfl
 |succ n ih=>
  rw [rep,ih,Cr];rfl
def dv (B:Nat):List Nat→Nat
 |[]=>0
 |d::r=>d+B*dv B r
theorem vh (l:List Nat):val l=dv 4294967296 l:=by
 induction l with
 |nil=>rfl
 |cons d l ih=>rw [val,dv,ih]
theorem tQ (B:Nat)(a b:List Nat):dv B (a++b)=dv B a+B^gP a*dv B b:=by
 induction a with
 |nil=>simp [dv]
 |cons d a ih=>
  simp only [EH,dv,ih,Au,Ar,A1];rw [←Az,vT (B^gP a) B];omega
theorem rV (B:Nat)(a:List Nat)(d:Nat):dv B (a++[d])=dv B a+B^gP a*d:=by
 rw [tQ];simp [dv]
theorem zji {l:List Nat}(h:∀d∈l,d<B):dv B l<B^gP l:=by
 induction l with
 |nil=>simp [dv]
 |cons d l ih=>
  have q:=h d gN;have f:=ih fun x i=>h x (by simp [i]);simp only [dv,Au,Ar];have g:B*(dv B l+1)≤B*B^gP l:=A9 B f;rw [A1,AO] at g;rw [vT (B^gP l) B];omega
theorem pW (B n:Nat):dv B (pl n 0)=0:=by
 induction n with
 |zero=>rfl
 |succ n ih=>rw [Cr,dv,ih];simp
theorem zf0:∀{l:List Nat} {j o:Nat} (d:Nat),l[j]?=some o→dv B (l.set j d)+o*B^j=dv B l+d*B^j:=by
 intro l;induction l with
 |nil=>intro j o d h;simp at h
 |cons x l ih=>
  intro j o d h;cases j with
  |zero=>
   simp only [List.getElem?_cons_zero,C6] at h;subst h;simp only [List.set_cons_zero,dv,CL,AO];omega
  |succ j=>
   simp only [List.getElem?_cons_succ] at h;have:=ih d h;simp only [List.set_cons_succ,dv,Ar];have e:B*(dv B (l.set j d)+o*B^j)=B*(dv B l+d*B^j):=by rw [this]
   rw [A1,A1] at e;have f:o*(B^j*B)=B*(o*B^j):=by rw [vT (B^j) B,BP]
   have e2:d*(B^j*B)=B*(d*B^j):=by rw [vT (B^j) B,BP]
   rw [f,e2];omega
theorem qh {l:List Nat}{d:Nat}(h:l[j]?=some d):l.take (j+1)=l.take j++[d]:=by
 obtain ⟨f,rfl⟩:=oc.1 h;rw [List.take_succ_eq_append_getElem f]
theorem xG {l:List Nat}{d:Nat}(h:l[j]?=some d):dv B (l.take (j+1))=dv B (l.take j)+B^j*d:=by
 have f:=(oc.1 h).1;rw [qh h,rV,Af,Be zo]
theorem oO (D:List Nat)(m d:Nat):(D++pl (m+1) 0).set (gP D) d=(D++[d])++pl m 0:=by
 rw [Cr,List.set_append_right _ _ eT];simp
theorem zci {V' c d:Nat}(h:V'=V+d*P)(g:B*c'+d=c+p):V'+c'*(P*B)=V+c*P+p*P:=by
 subst h;have e:(B*c'+d)*P=(c+p)*P:=by rw [g]
 rw [AH,AH] at e;have f:c'*(P*B)=B*c'*P:=by rw [vT P B,←Az,vT c' B]
 rw [f];omega
end
section
variable {len:Nat}
def cmpZ (a b:Nat):Int:=if a<b then -1 else if a=b then 0 else 1
theorem uj {a:Nat}(h:a<b):cmpZ a b= -1:=by unfold cmpZ;rw [eN h]
theorem mU (a:Nat):cmpZ a a=0:=by unfold cmpZ;rw [cC (Nat.lt_irrefl _),eN rfl]
theorem tA {a:Nat}(h:b<a):cmpZ a b=1:=by unfold cmpZ;rw [cC zo,cC zo]
theorem zla {l:List Nat}(c:d≠0):B^gP l≤dv B (l++[d]):=by
 rw [rV];have:B^gP l*1≤B^gP l*d:=A9 _ zo;omega
theorem Norm.len_lt {B:List Nat}(c:Norm A)(f:Norm B)(h:gP A<gP B):val A<val B:=by
 obtain ⟨i,d,rfl⟩:=snoc (l:=B) (by intro e;rw [e] at h;simp at h);rw [vh,vh];have g:=zji (B:=4294967296) c.1;have m:=zla (B:=4294967296) (l:=i) f.last;have o:4294967296^gP A≤4294967296^gP i:=Ac zo (by simp at h;omega);omega
theorem bh {l:List Nat}(h:l[j]?=some d):l=l.take j++(d::l.drop (j+1)):=by
 have:=List.take_append_drop j l;rw [wj h] at this;exact this.symm
theorem tn {x y:Nat}(i:∀d∈A,d<B)(e:A[j]?=some x)(f:C[j]?=some y)(c:A.drop (j+1)=C.drop (j+1))(h:x<y):dv B A<dv B C:=by
 have m:=(oc.1 e).1;have o:=(oc.1 f).1;rw [bh e,bh f,tQ,tQ,c,Af,Af,Be zo,Be zo];simp only [dv];have p:dv B (A.take j)<B^j:=by
  have:=zji (B:=B) (l:=A.take j) fun d c=>i d (List.mem_of_mem_take c);rw [Af,Be zo] at this;exact this
 have g:B^j*(x+B*dv B (C.drop (j+1))+1)≤B^j*(y+B*dv B (C.drop (j+1))):=A9 _ zo;rw [A1,AO] at g;omega
theorem Sl.lenU {l:List Nat}(g:Sl h n 1 (jx a len cap) (u32s l)):len=gP l:=by
 obtain ⟨m,i,c,e,f⟩:=g.len;rw [xv] at f;injection e with e1 e2 e3
 omega
theorem gL (k:Nat){g i:Nat}(l:Sl h n 1 (jx a1 l1 g) (u32s A))(m:Sl h n 1 (jx a2 l2 i) (u32s C))(o:Norm A)(p:Norm C)(G:gP A<1000000000000):
  VF (cal (k+1)) 111 [jx a1 l1 g,jx a2 l2 i] h n fun v=>v=jy .i64 (cmpZ (val A) (val C)):=by
 refine zI (fn:=Tryz.f111) R4 ?_;have s:=l.lenU;have u:=m.lenU;subst s u;refine Zb ?_;by_cases hlen:gP A=gP C
 ·refine Zi ?_;refine z9 (α:=Nat) (fun j=>[(0,jx a1 (gP A) g),(1,jx a2 (gP C) i),(5,jy .i64 ((j:Int)-1))]) (fun j D F w=>D=h∧F=n∧w=[]∧j≤gP A∧A.drop j=C.drop j) (fun j=>j) (gP A) ⟨rfl,rfl,rfl,eP⟩ ⟨rfl,rfl,rfl,eT,by rw [Ct,hlen,Ct]⟩ (by show gP A<LL;unfold LL;omega) ?_;rintro j t _ _ _ ⟨rfl,rfl,rfl,H,f⟩;refine zN ?_;cases j with
  |zero=>
   refine Zi ?_;have q:A=C:=f;subst q;rw [mU];exact retF _ rfl (zk rfl) R2 rfl
  |succ j=>
   obtain ⟨x,c⟩:∃x,A[j]?=some x:=⟨A[j]'zo,k4 zo⟩;obtain ⟨y,e⟩:∃y,C[j]?=some y:=⟨C[j]'zo,k4 zo⟩;refine Zp ?_;rw [tB rfl];repeat refine zR ?_
   refine xt R7 l ⟨rfl,zo⟩ c (fun _=>rfl) R4 fun _=>?_;repeat refine zR ?_
   refine xt R7 m ⟨rfl,zo⟩ e (fun _=>rfl) R4 fun _=>?_;by_cases hxy:x=y
   ·refine Zi ?_;refine goOn j (by show j<j+1;omega) ⟨rfl,rfl,by show jy .i64 _=jy .i64 _;congr 1;omega,eP⟩ ⟨rfl,rfl,rfl,by show j≤gP A;omega,?_⟩;rw [wj c,wj e,hxy,f]
   refine Zp ?_;rw [tB rfl];repeat refine zR ?_
   refine xt R7 l ⟨rfl,zo⟩ c (fun _=>rfl) R4 fun _=>?_;repeat refine zR ?_
   refine xt R7 m ⟨rfl,zo⟩ e (fun _=>rfl) R4 fun _=>?_;by_cases hlt:x<y
   ·refine Zn ?_;rw [uj (by rw [vh,vh];exact tn o.1 c e f hlt)];exact retF _ rfl (zk rfl) R2 rfl
   refine Zi ?_;rw [tA (by rw [vh,vh];exact tn p.1 e c f.symm zo)];exact retF _ rfl (zk rfl) R2 rfl
 refine Zp ?_;by_cases hlt:gP A<gP C
 ·refine Zn ?_;rw [uj (o.len_lt p hlt)];exact retF _ rfl (zk rfl) R2 rfl
 refine Zi ?_;rw [tA (p.len_lt o zo)];exact retF _ rfl (zk rfl) R2 rfl
end
section
variable {len:Nat}
def u64s (l:List Nat):List Value:=l.map fun d:Nat=>jy .u64 (d:Int)
theorem yh (l:List Nat):gP (u64s l)=gP l:=by simp [u64s]
theorem nv (a b:List Nat):u64s (a++b)=u64s a++u64s b:=by simp [u64s]
theorem vy (l:List Nat)(j d:Nat):(u64s l).set j (jy .u64 (d:Int))=u64s (l.set j d):=by
 unfold u64s;rw [FZ]
theorem ct {l:List Nat}(h:l[j]?=some d):(u64s l)[j]?=some (jy .u64 (d:Int)):=by
 rw [u64s,sr,h];rfl
theorem jW (l:List Nat)(m:Nat):(u64s l).take m=u64s (l.take m):=by simp [u64s,List.map_take]
theorem jX (l:List Nat)(m:Nat):(u64s l).drop m=u64s (l.drop m):=by simp [u64s,List.map_drop]
theorem uu (l:List Nat):ones (u64s l)=true:=by
 induction l with
 |nil=>rfl
 |cons d l ih=>exact ih
theorem sE (n:Nat):rep n [jy .u64 0]=u64s (pl n 0):=by
 induction n with
 |zero=>rfl
 |succ n ih=>
  rw [rep,ih,Cr];rfl
def WdD (l:List Nat):Prop:=∀d∈l,d<18446744073709551616
def wv (l:List Nat):Nat:=dv 18446744073709551616 l
theorem WdD.snoc {D:List Nat}(h:WdD D)(c:d<18446744073709551616):WdD (D++[d]):=fun x b=>by
 rcases Al.1 b with b|b
 ·exact h x b
 simp at b;omega
theorem WdD.get {l:List Nat}(h:WdD l)(b:l[j]?=some d):d<18446744073709551616:=h d (ns b)
theorem WdD.nil:WdD []:=fun d b=>cA b nN
theorem WdD.drop {l:List Nat}(h:WdD l)(m:Nat):WdD (l.drop m):=fun d b=>h d (List.mem_of_mem_drop b)
theorem WdD.zeros (m:Nat):WdD (pl m 0):=fun d b=>by rw [De b];decide
theorem WdD.append {a b:List Nat}(e:WdD a)(f:WdD b):WdD (a++b):=fun x c=>by
 rcases Al.1 c with c|c
 ·exact e x c
 exact f x c
theorem WdD.set {l:List Nat}(h:WdD l)(c:d<18446744073709551616):WdD (l.set j d):=fun x b=>by
 rcases Bd b with b|rfl
 ·exact h x b
 exact c
theorem cu (B:Nat):∀l,dv B (yS l)=dv B l:=
 xZ (fun l ih=>by rw [xp,ih,tQ];simp [dv]) (fun l d b=>by rw [xA l b]) rfl
theorem zc4:∀l,WdD l→WdD (yS l):=
 xZ (fun l ih h=>by rw [xp];exact ih fun d b=>h d (by simp [b])) (fun l d b h=>by rw [xA l b];exact h) (fun h=>h)
def NW (l:List Nat):Prop:=WdD l∧yS l=l
theorem NW.trim {l:List Nat}(h:WdD l):NW (yS l):=⟨zc4 l h,kf l⟩
theorem NW.nil:NW []:=⟨WdD.nil,rfl⟩
theorem NW.last {l:List Nat}(h:NW (l++[d])):d≠0:=fun e=>by
 have b:=h.2;subst e;rw [xp] at b;have:=wK l;rw [b] at this;simp at this;omega
theorem NW.one (h0:d≠0)(h:d<18446744073709551616):NW [d]:=⟨WdD.snoc WdD.nil h,xA [] h0⟩
theorem zcw {l:List Nat}(h:WdD l):wv l<18446744073709551616^gP l:=zji h
theorem NW.low {l:List Nat}(h:NW (l++[d])):18446744073709551616^gP l≤wv (l++[d]):=zla h.last
theorem NW.len_lt (b:NW A)(c:NW C)(h:gP A<gP C):wv A<wv C:=by
 obtain ⟨i,d,rfl⟩:=Go.Proofs.YtfajmfoofmienaaGreatDoor.snoc (l:=C) (by intro e;rw [e] at h;simp at h);have f:=zcw b.1;have g:=c.low;have m:18446744073709551616^gP A≤18446744073709551616^gP i:=Ac zo (by simp at h;omega);omega
theorem NW.len_le (c:NW A)(h:wv A<18446744073709551616^k):gP A≤k:=by
 apply An;intro b;obtain ⟨i,d,rfl⟩:=Go.Proofs.YtfajmfoofmienaaGreatDoor.snoc (l:=A) (by intro e;rw [e] at b;simp at b);have f:=c.low;have g:18446744073709551616^k≤18446744073709551616^gP i:=Ac zo (by simp at b;omega);omega
theorem zqh:∀{A C:List Nat},gP A=gP C→(∀d∈A,d<B)→(∀d∈C,d<B)→dv B A=dv B C→A=C:=by
 intro A;induction A with
 |nil=>intro C b _ _ _;exact (xd.1 b.symm).symm
 |cons a A ih=>
  intro C b f g h;cases C with
  |nil=>simp at b
  |cons c C=>
   have m:=f a gN;have o:=g c gN;simp only [dv] at h;have i:a=c:=by
    have:=congrArg (· %B) h;simp only [D6,Ag m,Ag o] at this;exact this
   subst i;have l:dv B A=dv B C:=CU zo (Nat.add_left_cancel h);rw [ih (by simpa using b) (fun d e=>f d (by simp [e])) (fun d e=>g d (by simp [e])) l]
theorem NW.inj (c:NW A)(e:NW C)(h:wv A=wv C):A=C:=by
 rcases C7 (gP A) (gP C) with b|b|b
 ·have:=c.len_lt e b;omega
 ·exact zqh b c.1 e.1 h
 have:=e.len_lt c b;omega
theorem Sl.lenW {l:List Nat}(f:Sl h n 1 (jx a len cap) (u64s l)):len=gP l:=by
 obtain ⟨i,g,b,e,c⟩:=f.len;rw [yh] at c;injection e with e1 e2 e3
 omega
theorem uG (k:Nat){l:List Nat}(M:gP l<4611686018427387904)(hsp:∀ad,a=some ad→ad.spot=none)(o:Sl h n 1 (jx a len cap) (u64s l)):CF (cal (k+1)) 183 [jx a len cap] h n fun H s y w=>s=h∧y=n∧w=[]∧H=jx a (gP (yS l)) cap∧Sl h n 1 H (u64s (yS l)):=by
 refine zu (fn:=Tryz.f183) R4 ?_;have i:=o.lenW;subst i;refine Zx ?_;refine z9 (α:=Nat) (fun m=>[(0,jx a (gP l) cap),(3,jy .i64 (m:Int))]) (fun m s y w=>h=s∧n=y∧w=[]∧m≤gP l∧yS (l.take m)=yS l) (fun m=>m) (gP l) ⟨rfl,rfl,eP⟩ ⟨rfl,rfl,rfl,eT,by rw [Ax]⟩ (by show gP l<LL;unfold LL;omega) ?_;rintro m t _ _ _ ⟨rfl,rfl,rfl,I,v⟩;have p:∀K:TF,yS l=l.take m→gP (yS l)=m∧Sl h n 1 (jx a m cap) (u64s (yS l)):=fun K e=>by
  have D:=o.take m I;rw [AO,jW] at D;rw [e];exact ⟨by rw [Af];omega,D⟩
 refine zN ?_;cases m with
 |zero=>
  refine Zj ?_;have u:yS l=l.take 0:=by rw [←v,Bj];rfl
  obtain ⟨c,g⟩:=p t u;cases a with
  |none=>
   refine Za ?_;refine retH _ ⟨rfl,(zk rfl),rfl⟩ ⟨rfl,rfl,rfl,?_,g⟩;rw [c];rfl
  |some ad=>
   obtain ⟨b,G,J⟩:=ad;obtain rfl:J=none:=hsp _ rfl;repeat refine zR ?_
   refine sk 0 R8 zo zo ?_;refine Za ?_;refine retH _ ⟨rfl,(zk rfl),rfl⟩ ⟨rfl,rfl,rfl,?_,g⟩;rw [c];rfl
 |succ m=>
  obtain ⟨d,F⟩:∃d,l[m]?=some d:=⟨l[m]'zo,k4 zo⟩;have q:=qh F;repeat refine zR ?_
  refine xt (f:=fun d:Nat=>jy .u64 (d:Int)) (j:=m) R7 o ⟨rfl,zo⟩ F (fun _=>rfl) R4 fun _=>?_;by_cases h0:d=0
  ·refine Zn ?_;refine goOn m zo ⟨rfl,by show jy .i64 _=jy .i64 _;congr 1;omega,eP⟩ ⟨rfl,rfl,rfl,zo,?_⟩;rw [←v,q,h0,xp]
  refine Zj ?_;have u:yS l=l.take (m+1):=by rw [←v,q,xA _ h0]
  obtain ⟨c,g⟩:=p t u;obtain ⟨b,G,x,L,rfl,_⟩:=o.inv zo;repeat refine zR ?_
  refine sk (m+1) R8 zo zo ?_;refine Za ?_;refine retH _ ⟨rfl,(zk rfl),rfl⟩ ⟨rfl,rfl,rfl,?_,g⟩;rw [c];rfl
end
def cmpI (a b:Int):Int:=if a<b then -1 else if b<a then 1 else 0
theorem zas (a b:Nat):cmpI (a:Int) (b:Int)=cmpZ a b:=by
 unfold cmpI cmpZ;rcases C7 a b with h|h|h
 ·rw [eN zo,eN h]
 ·rw [cC zo,cC zo,cC zo,eN h]
 rw [cC zo,eN zo,cC zo,cC zo]
theorem gm (k:Nat)(h:HF)(n:Nat)(a:Int):VF (cal (k+1)) 223 [jy .i64 a] h n fun v=>v=kz false:=by
 refine zI (fn:=Tryz.f223) R4 ?_;refine Zx ?_;exact retF _ rfl (zk rfl) R2 rfl
theorem zn3 (k:Nat)(h:HF)(n:Nat)(a b:Int):VF (cal (k+2)) 193 [jy .i64 a,jy .i64 b] h n fun v=>v=jy .i64 (cmpI a b):=by
 refine zI (fn:=Tryz.f193) R4 ?_;refine Zv ?_;refine yk _ R5 (gm k h n a) ?_;rintro _ rfl;refine Zk ?_;refine yk _ R5 (gm k h n b) ?_;rintro _ rfl;refine Za ?_;refine Zi ?_;refine ZA ?_;rcases Et a b with d|e|c
 ·refine Zn ?_;exact retF _ rfl (zk rfl) R2 (by rw [cmpI,eN d];rfl)
 ·refine Zi ?_;rw [za rfl];refine Zb ?_;exact retF _ rfl (zk rfl) R2 (by rw [cmpI,cC zo,cC zo];rfl)
 refine Zi ?_;rw [ze rfl];refine Zb ?_;exact retF _ rfl (zk rfl) R2 (by rw [cmpI,cC zo,eN c];rfl)
theorem pR (k:Nat)(h:HF)(n:Nat)(a:Int):VF (cal (k+1)) 224 [jy .u64 a] h n fun v=>v=kz false:=by
 refine zI (fn:=Tryz.f224) R4 ?_;refine Zx ?_;exact retF _ rfl (zk rfl) R2 rfl
theorem zch (k:Nat)(h:HF)(n:Nat)(a b:Int):VF (cal (k+2)) 194 [jy .u64 a,jy .u64 b] h n fun v=>v=jy .i64 (cmpI a b):=by
 refine zI (fn:=Tryz.f194) R4 ?_;refine Zv ?_;refine yk _ R5 (pR k h n a) ?_;rintro _ rfl;refine Zk ?_;refine yk _ R5 (pR k h n b) ?_;rintro _ rfl;refine Za ?_;refine Zi ?_;refine ZA ?_;rcases Et a b with d|e|c
 ·refine Zn ?_;exact retF _ rfl (zk rfl) R2 (by rw [cmpI,eN d];rfl)
 ·refine Zi ?_;rw [za rfl];refine Zb ?_;exact retF _ rfl (zk rfl) R2 (by rw [cmpI,cC zo,cC zo];rfl)
 refine Zi ?_;rw [ze rfl];refine Zb ?_;exact retF _ rfl (zk rfl) R2 (by rw [cmpI,cC zo,eN c];rfl)
theorem rY (k:Nat){h:HF}{n:Nat}{g i:Option Addr}{K l L m:Nat}{A C:List Nat}(o:Sl h n 1 (jx g K l) (u64s A))(p:Sl h n 1 (jx i L m) (u64s C))(D:NW A)(F:NW C)(Y:gP A<1000000000000):
  VF (cal (k+3)) 156 [jx g K l,jx i L m] h n fun v=>v=jy .i64 (cmpZ (wv A) (wv C)):=by
 refine zI (fn:=Tryz.f156) R4 ?_;have M:=o.lenW;have N:=p.lenW;subst M N;refine Zb ?_;by_cases hlen:gP A=gP C
 ·refine Zi ?_;refine z9 (α:=Nat) (fun j=>[(0,jx g (gP A) l),(1,jx i (gP C) m),(5,jy .i64 ((j:Int)-1))]) (fun j R S w=>h=R∧n=S∧w=[]∧j≤gP A∧A.drop j=C.drop j) (fun j=>j) (gP A) ⟨rfl,rfl,rfl,eP⟩ ⟨rfl,rfl,rfl,eT,by rw [Ct,hlen,Ct]⟩ (by show gP A<LL;unfold LL;omega) ?_;rintro j t _ _ _ ⟨rfl,rfl,rfl,Z,b⟩;refine zN ?_;cases j with
  |zero=>
   refine Zi ?_;rw [AQ,AQ] at b;subst b;exact retF _ rfl (zk rfl) R2 (by rw [mU];rfl)
  |succ j=>
   obtain ⟨x,c⟩:∃x,A[j]?=some x:=⟨A[j]'zo,k4 zo⟩;obtain ⟨y,e⟩:∃x,C[j]?=some x:=⟨C[j]'zo,k4 zo⟩;refine Zp ?_;rw [tB rfl];repeat refine zR ?_
   refine xt (f:=fun d:Nat=>jy .u64 (d:Int)) (j:=j) R7 o ⟨rfl,zo⟩ c (fun _=>rfl) R4 fun _=>?_;repeat refine zR ?_
   refine xt (f:=fun d:Nat=>jy .u64 (d:Int)) (j:=j) R7 p ⟨rfl,zo⟩ e (fun _=>rfl) R4 fun _=>?_;by_cases hxy:x=y
   ·refine Zi ?_;refine goOn j zo ⟨rfl,rfl,by show jy .i64 _=jy .i64 _;congr 1;omega,eP⟩ ⟨rfl,rfl,rfl,zo,?_⟩;rw [wj c,wj e,b,hxy]
   refine Zp ?_;refine zm [0,0,3,7,0,0,48,112,255,511] rfl ?_;obtain ⟨V,T,x1,G,rfl,_,u,q,_,_,I⟩:=o.inv zo;obtain ⟨W,U,x2,H,rfl,_,B,s,_,_,J⟩:=p.inv zo;have O:G[T+j]?=some (jy .u64 (x:Int)):=wE I (ct c);have P:H[U+j]?=some (jy .u64 (y:Int)):=wE J (ct e);repeat refine zD ?_
   refine zga R8 zo ?_;refine zZ R6 (zX rfl u (v:=jy .u64 (x:Int)) ⟨q,(by rw [←O];congr 1;omega)⟩) R2 ?_;repeat refine zD ?_
   refine zga R8 zo ?_;refine zZ R6 (zX rfl B (v:=jy .u64 (y:Int)) ⟨s,(by rw [←P];congr 1;omega)⟩) R2 ?_;refine df _ R7 (zch k h n (x:Int) (y:Int)) ?_;rintro _ rfl;refine Zs ?_;refine retF _ rfl (zk rfl) R2 ?_;rw [zas];show jy .i64 (cmpZ x y)=jy .i64 (cmpZ (wv A) (wv C));congr 1;rcases Ei hxy with a|a
   ·rw [uj a,uj (show wv A<wv C from tn D.1 c e b a)]
   rw [tA a,tA (show wv C<wv A from tn F.1 e c b.symm a)]
 refine Zr ?_;refine yk _ R5 (zn3 k h n (gP A:Int) (gP C:Int)) ?_;rintro _ rfl;refine Za ?_;refine retF _ rfl (zk rfl) R2 ?_;rw [zas];show jy .i64 _=jy .i64 _;congr 1;rcases Ei hlen with a|a
 ·rw [uj a,uj (D.len_lt F a)]
 rw [tA a,tA (F.len_lt D a)]
def ResW (n:Nat)(h:HF)(v:Value)(h':HF)(n':Nat)(w:List Nat)(L:List Nat):Prop:=w=[]∧n≤n'∧Ext n h h'∧Sl h' n' 1 v (u64s L)∧NW L
theorem mC (k:Nat)(h:HF)(n:Nat){w:Nat}(b:w<18446744073709551616):CF (cal (k+1)) 184 [jy .u64 (w:Int)] h n fun v a c W=>∃L,ResW n h v a c W L∧wv L=w∧gP L≤1∧yj n v:=by
 refine zu (fn:=Tryz.f184) R4 ?_;refine Zb ?_;by_cases h0:w=0
 ·subst h0;refine Zn ?_;exact retH _ ⟨rfl,(zk rfl),rfl⟩ ⟨[],⟨rfl,eT,Ext.refl _ _,.nil (.inl rfl),NW.nil⟩,rfl,by decide,eP⟩
 refine Zw ?_;refine vm (cs:=[jy .u64 (w:Int)]) R5 ?_;refine Za ?_;exact retH _ ⟨rfl,(zk rfl),rfl⟩ ⟨[w],⟨rfl,ux _,Ext.upd zo,.at_ (by show 3*n+2<3*(n+1);omega) (zh _ _ _) rfl eT eT rfl,NW.one h0 b⟩,by simp [wv,dv],eT,by show 3*n≤3*n+2;omega⟩
end Go.Proofs.YtfajmfoofmienaaGreatDoor
namespace Go.Proofs.YtfajmfoofmienaaGreatDoor
theorem rS {x:Nat}(b:x%2=1)(t y:Nat):sN x (2^t*y)=sN x y:=by
 have a:C5 x (2^t):=by
  apply Nat.Coprime.pow_right;unfold C5;rw [B8,Nat.gcd_rec,b];rfl
 exact DZ y a.symm
theorem eJ (x y:Nat):sN (min x y) (max x y-min x y)=sN x y:=by
 rcases G0 x y with h|h
 ·rw [Be h,Hk h,F2 h]
 rw [FW h,HJ h,F2 h,B8]
def Tz (x t:Nat):Prop:=∃o,x=2^t*o∧o%2=1
theorem Tz.or {x y t:Nat}(h:Tz (x|||y) t):∃a b,x=2^t*a∧y=2^t*b∧(a%2=1∨b%2=1):=by
 obtain ⟨o,e,i⟩:=h;have c:(x|||y)%2^t=0:=by rw [e];exact Eo _ _
 rw [GJ] at c;obtain ⟨j,l⟩:x%2^t=0∧y%2^t=0:=GM.1 c;obtain ⟨a,rfl⟩:=F3 j;obtain ⟨b,rfl⟩:=F3 l;refine ⟨a,b,rfl,rfl,?_⟩;apply An;intro m;have f:a%2=0:=zo;have g:b%2=0:=zo;have d:(2^t*a|||2^t*b)%2^(t+1)=0:=by
  rw [GJ,Ar,ET,ET,f,g,Nat.mul_zero];rfl
 rw [e,Ar,ET,i] at d;have:0<2^t:=Bz zo;omega
theorem zfd {x y s t o:Nat}(u:Tz (x|||y) s)(g:x=2^t*o)(f:o%2=1):2^s*sN o y=sN x y:=by
 obtain ⟨a,b,c,i,e⟩:=u.or;have v:s≤t:=by
  apply An;intro q;have:2^s=2^t*(2*2^(s-t-1)):=by
   rw [←Az,←Ar,←Bq];congr 1;omega
  rw [g,this,Az] at c;have:=CU (Bz zo) c;rw [this,Az,Eo] at f;omega
 have d:a=2^(t-s)*o:=by
  have:2^t=2^s*2^(t-s):=by rw [←Bq];congr 1;omega
  rw [g,this,Az] at c;exact (CU (Bz zo) c).symm
 rw [c,i,Nat.gcd_mul_left,rS f,d];congr 1;rcases e with j|l
 ·have:t-s=0:=by
   apply An;intro q;obtain ⟨m,p⟩:∃m,t-s=m+1:=⟨t-s-1,zo⟩;rw [d,p,Ar,Az,BP,Eo] at j;omega
  rw [this,CL,Bs]
 rw [B8,←rS l (t-s) o,B8]
theorem zfe {x y t z:Nat}(a:x%2=1)(b:y=2^t*z)(c:z%2=1):min x z%2=1∧sN (min x z) (max x z-min x z)=sN x y∧min x z+(max x z-min x z)<x+y:=by
 refine ⟨?_,?_,?_⟩
 ·rcases G0 x z with h|h
  ·rw [Be h];exact a
  rw [FW h];exact c
 ·rw [eJ,b,rS a]
 have d:z≤y:=by rw [b];exact Nat.le_mul_of_pos_left _ (Bz zo)
 have:min x z+(max x z-min x z)=max x z:=zo;rw [this];omega
end Go.Proofs.YtfajmfoofmienaaGreatDoor
namespace Go.Proofs.YtfajmfoofmienaaGreatDoor
open Go Go.GL
variable {n len off cap bt sz c' l1 l2 b B P V d j m p:Nat}{ty' ty e:TypeId}{ops r:List Oper}{ik:IntKind}{a1 a2:Option Addr}{x y:Operand}{v z:Value}{A C w:List Nat}{o:Oper}
variable {h:HF}
section
variable {X:CtxF}{t:TF}{h:HF}{Q:SV→Prop}{d:Tmp}
theorem zdl {a:Nat}(j:zi ops t o=true)(c:o.dst=some d)(f:zv X.nt (some d)=true)(g:o.op=.binOp .and ty x y ty')(l:evF t x=jy .u64 (a:Int))(m:evF t y=jy .u64 4294967295)(i:a<18446744073709551616)
  (k:EO X ops r ⟨upd t d (jy .u64 ((a%4294967296:Nat):Int)),h,n,w⟩ Q):EO X ops (o::r) ⟨t,h,n,w⟩ Q:=by
 refine qX (b:=4294967295) ⟨j,c,f,g,l,m⟩ ⟨i,by decide⟩ ?_;rw [show a&&& 4294967295=a%4294967296 from Nat.and_two_pow_sub_one_eq_mod a 32];exact k
theorem zl9 {a:Nat}(i:zi ops t o=true)(c:o.dst=some d)(f:zv X.nt (some d)=true)(g:o.op=.binOp .shr ty x y ty')(j:evF t x=jy .u64 (a:Int))(l:evF t y=jy ik 32)
  (k:EO X ops r ⟨upd t d (jy .u64 ((a/4294967296:Nat):Int)),h,n,w⟩ Q):EO X ops (o::r) ⟨t,h,n,w⟩ Q:=
 yE (s:=32) ⟨i,c,f,g,j,l⟩ zd k
theorem zW {d:Tmp}(k:EO X ops r ⟨upd t d v,h,n,w⟩ Q)(f:EO X ops r ⟨upd t d v,h,n,w⟩ Q→EO X ops (o::r) ⟨t,h,n,w⟩ Q:=by first|exact pI R6 zo|exact cP R6 zo|exact pJ R6 zo|exact nJ R6 zo|exact ko R6 zo|exact iB R6 zo|exact kq R6 zo|exact iD R6 zo|exact cQ R6 zo|exact cT R6 zo|exact k7 R6 zo|exact k8 R6 zo|exact qV R6|exact zdm R6|exact zbd R6|exact fG R6|exact fH R6|exact iA R6|exact ur R6 zo|exact kn R6 zo|exact wa (a:=4294967296) R6 zo|exact zdl rfl rfl rfl rfl rfl rfl zo|exact zl9 rfl rfl rfl rfl rfl rfl|exact uM R7 zo|exact nK R7 zo|exact wV R6 zo|exact yO R6 zo|exact xL R6 zo|exact xL (b:=1) R6 zo|exact km R6 zo|exact wa R6 zo|exact xc R6 zo|exact yE (s:=32) R6 zo|exact st_I R5|exact st_B R5|exact st_S R5|exact st_P R5|exact st_T R5|exact st_A R5|exact st_U R5|exact zF (v:=.pointer none) R5|exact iz R3):EO X ops (o::r) ⟨t,h,n,w⟩ Q:=f k
theorem qo {x y c:Nat}(a:sh X ops t o d (cls o.op=3∧effF X.E o.op (evF t) h n=(match GE.ext 222 [jy .u64 (x:Int),jy .u64 (y:Int),jy .u64 (c:Int)] with|some v=>some (.val v h n [])|none=>some (.enter 222 [jy .u64 (x:Int),jy .u64 (y:Int),jy .u64 (c:Int)]))))(f:c≤1)
  (k:EO X ops r ⟨upd t d (.tuple #[jy .u64 (((x+y+c)%18446744073709551616:Nat):Int),jy .u64 (((x+y+c)/18446744073709551616:Nat):Int)]),h,n,w⟩ Q):EO X ops (o::r) ⟨t,h,n,w⟩ Q:=by
 obtain ⟨a,i,l,g,j⟩:=a;refine zkm a i l g (j.trans ?_) k;have e:GE.ext 222 [jy .u64 (x:Int),jy .u64 (y:Int),jy .u64 (c:Int)]=some (.tuple #[jy .u64 (((x+y+c)%18446744073709551616:Nat):Int),jy .u64 (((x+y+c)/18446744073709551616:Nat):Int)]):=by
  show (match Ai c 1 with|true=>some (FM ⟨[jy .u64 (.ofNat ((x+y+c)%18446744073709551616)),jy .u64 (.ofNat ((x+y+c)/18446744073709551616))]⟩)|false=>none)=_;rw [sn f];rfl
 rw [e]
theorem cK {x y c:Nat}(f:sh X ops t o d (cls o.op=3∧effF X.E o.op (evF t) h n=(match GE.ext 214 [jy .u64 (x:Int),jy .u64 (y:Int),jy .u64 (c:Int)] with|some v=>some (.val v h n [])|none=>some (.enter 214 [jy .u64 (x:Int),jy .u64 (y:Int),jy .u64 (c:Int)]))))(a:c≤1)
  (k:EO X ops r ⟨upd t d (.tuple #[jy .u64 (((x+18446744073709551616-y-c)%18446744073709551616:Nat):Int),jy .u64 ((if y+c≤x then 0 else 1:Nat):Int)]),h,n,w⟩ Q):EO X ops (o::r) ⟨t,h,n,w⟩ Q:=by
 obtain ⟨f,i,l,g,j⟩:=f;refine zkm f i l g (j.trans ?_) k;have e:GE.ext 214 [jy .u64 (x:Int),jy .u64 (y:Int),jy .u64 (c:Int)]=some (.tuple #[jy .u64 (((x+18446744073709551616-y-c)%18446744073709551616:Nat):Int),jy .u64 ((if y+c≤x then 0 else 1:Nat):Int)]):=by
  show (match Ai c 1 with|true=>some (FM ⟨[jy .u64 (.ofNat ((x+18446744073709551616-y-c)%18446744073709551616)),jy .u64 (.ofNat (match Ai (y+c) x with|true=>0|false=>1))]⟩)|false=>none)=_;rw [sn a];by_cases h:y+c≤x
  ·rw [sn h,eN h];rfl
  rw [cC h];cases a:Ai (y+c) x with
  |true=>exact cA (Am a) h
  |false=>rfl
 rw [e]
theorem fF {i:Operand}{j:Int}(a:sh X ops t o d (o.op=.indexAddr ty x i∧X.E.und ty=some (.array len e)∧X.E.inf e=some (sz,bt,z)∧evF t x=kS (some ⟨b,off,none⟩)∧evF t i=jy ik j))(p:0≤j∧j<len)(k:EO X ops r ⟨upd t d (kS (some ⟨b,off+j.toNat*sz,none⟩)),h,n,w⟩ Q):EO X ops (o::r) ⟨t,h,n,w⟩ Q:=by
 obtain ⟨a,f,m,c,q,g,s,l⟩:=a;refine zF ⟨a,f,m,(by rw [c];rfl),?_⟩ k;rw [c];show yF X.E ty (evF t x) (evF t i)=_;rw [s,l];simp only [yF,q,g,eN p,wl]
end
theorem zqr:GK.d64=FR.map fun d:Nat=>jy .u8 (d:Int):=rfl
theorem bP (k:Nat)(h:HF)(n:Nat){x y:Nat}(f:x<18446744073709551616)(g:y<18446744073709551616):VF (cal (k+1)) 120 [jy .u64 (x:Int),jy .u64 (y:Int)] h n fun v=>v=.tuple #[jy .u64 ((x*y/18446744073709551616:Nat):Int),jy .u64 ((x*y%18446744073709551616:Nat):Int)]:=by
 refine zI (fn:=Tryz.f120) R4 ?_;obtain ⟨i,j,l,c⟩:=Lib.mul64_hi x y f g;have m:=Gd (a:=x/4294967296) (b:=y/4294967296) zo zo;have p:=Gd (a:=x/4294967296) (b:=y%4294967296) zo zo;have q:=Gd (a:=x%4294967296) (b:=y/4294967296) zo zo;refine Zb ?_;repeat refine zW ?_
 refine zN ?_;repeat refine zW ?_
 refine zN ?_;repeat refine zW ?_
 refine zN ?_;repeat refine zW ?_
 refine zN ?_;repeat refine zW ?_
 refine zN ?_;repeat refine zW ?_
 refine zN ?_;repeat refine zW ?_
 refine zN ?_;repeat refine zW ?_
 refine zN ?_;repeat refine zW ?_
 refine zN ?_;repeat refine zW ?_
 refine Zm ?_;refine wu (a:=x) (b:=y) R6 ?_;refine Za ?_;refine retF [jy .u64 _,jy .u64 _] rfl rfl R2 ?_;rw [←c];rfl
theorem zeg {x:Nat}(a:x<18446744073709551616)(h0:x≠0):some (jy .u64 (Ao .u64 (0-(x:Int))))=some (jy .u64 ((18446744073709551616-x:Nat):Int)):=by
 have e:Ao .u64 (0-(x:Int))=((18446744073709551616-x:Nat):Int):=by
  simp only [Ao,Cp,By];simp;omega
 rw [e]
theorem zqs {i s:Nat}(hl:i<64)(a:FR.getD i 0=s):GK.d64[0+(i:Int).toNat*1]?=some (jy .u8 (s:Int)):=by
 have hl:i<gP FR:=hl;rw [zqr,show 0+(i:Int).toNat*1=i from zo,sr,k4 hl];rw [List.getD_eq_getElem?_getD,k4 hl] at a;simp only [Hm] at a;rw [a];rfl
theorem fk (k:Nat){h:HF}(q:GK.G h)(n:Nat){x:Nat}(l:x<18446744073709551616)(h0:x≠0):VF (cal (k+1)) 215 [jy .u64 (x:Int)] h n fun v=>∃s:Nat,v=jy .i64 (s:Int)∧s<64∧∃o,x=2^s*o∧o%2=1:=by
 refine zI (fn:=Tryz.f215) R4 ?_;obtain ⟨d,f⟩:x&&& (18446744073709551616-x)=2^Hb 64 x∧Hb 64 x<64:=Lib.lowest_bit 64 x h0 l;have p:Hb 64 x=Lib.ctzFrom 64 x:=by unfold Hb;rw [cC h0]
 obtain ⟨m,c,_⟩:=Lib.ctzFrom_spec 64 x zo l;rw [←p] at c;obtain ⟨e,g⟩:=Lib.deBruijn64_at (Hb 64 x) f;generalize Hb 64 x=s at d f c e g;have j:∃o,x=2^s*o∧o%2=1:=⟨2*m+1,c,by clear c d;omega⟩;clear c p;refine Zb ?_;refine Zd ?_;refine Zm ?_;refine zF (v:=jy .u64 ((18446744073709551616-x:Nat):Int)) ⟨rfl,rfl,rfl,rfl,(zeg l h0)⟩ ?_;refine qX (a:=x) (b:=18446744073709551616-x) R6 zo ?_;rw [d];clear d;refine wu (a:=2^s) (b:=285870213051353865) R6 ?_;refine yE (a:=2^s*285870213051353865%18446744073709551616) (s:=58) R6 zd ?_;rw [show (2:Nat)^58=288230376151711744 from rfl];generalize 2^s*285870213051353865%18446744073709551616/288230376151711744=i at e g ⊢;refine fF R8 ⟨Int.natCast_nonneg _,Eu.2 e⟩ ?_;have u:=zqs e g;refine zl R6 q.1 (v:=jy .u8 (s:Int)) ⟨rfl,u⟩ ?_;refine wx (a:=(s:Int)) R7 zo ?_;refine Za ?_;exact retF _ rfl (zk rfl) R2 ⟨s,rfl,f,j⟩
theorem zb2 (k:Nat){h:HF}(A:GK.G h)(n:Nat){x y:Nat}(I:x<18446744073709551616)(J:y<18446744073709551616):VF (cal (k+2)) 185 [jy .u64 (x:Int),jy .u64 (y:Int)] h n fun v=>v=jy .u64 ((sN x y:Nat):Int):=by
 refine zI (fn:=Tryz.f185) R4 ?_;have H:x|||y<18446744073709551616:=Nat.or_lt_two_pow (n:=64) I J;refine Zb ?_;by_cases hx0:x=0
 ·subst hx0;refine Zz ?_;refine tH (a:=0) (b:=y) R6 zo ?_;refine Za ?_;exact retF _ rfl (zk rfl) R2 (by rw [Nat.gcd_zero_left,Nat.zero_or];rfl)
 by_cases hy0:y=0
 ·subst hy0;refine Zz ?_;refine tH (a:=x) (b:=0) R6 zo ?_;refine Za ?_;exact retF _ rfl (zk rfl) R2 (by rw [Ej,Nat.or_zero];rfl)
 have C:x|||y≠0:=fun e=>hx0 (GM.1 e).1;refine Zd ?_;refine Zm ?_;refine tH (a:=x) (b:=y) R6 zo ?_;refine yk _ R5 (fk k A n H C) ?_;rintro _ ⟨s,rfl,V,D⟩;refine Za ?_;refine Zg ?_;refine yk _ R5 (fk k A n I hx0) ?_;rintro _ ⟨K,rfl,S,d,u,q⟩;refine yE (a:=x) (s:=K) R6 zo ?_;have i:x/2^K=d:=by rw [u];exact BY _ (Bz zo)
 have N:d≤x:=by rw [←i];exact Bk _ _
 rw [i];refine Za ?_;have B:=zfd (s:=s) D u q;refine z9 (α:=Nat×Nat) (fun z=>[(0,jy .u64 (z.1:Int)),(1,jy .u64 (z.2:Int)),(5,jy .i64 (s:Int))]) (fun z M P w=>h=M∧n=P∧w=[]∧z.1%2=1∧z.1<18446744073709551616∧z.2<18446744073709551616∧sN z.1 z.2=sN d y) (fun z=>z.1+z.2) (d,y) ⟨rfl,rfl,rfl,eP⟩ ⟨rfl,rfl,rfl,q,by show d<_;omega,J,rfl⟩ (by show d+y<LL;unfold LL;omega) ?_;rintro ⟨a,b⟩ t _ _ _ ⟨rfl,rfl,rfl,F,m,o,j⟩;simp only at F m o j;refine zN ?_;by_cases hb0:b=0
 ·subst hb0;refine Zj ?_;rw [Ej] at j;refine Zg ?_;refine uo (a:=a) (s:=s) R6 zo ?_;refine Za ?_;refine retF _ rfl (zk rfl) R2 ?_;show jy .u64 _=jy .u64 _;have R:sN x y≤x:=Nat.gcd_le_left _ zo;rw [j,vT,B,Ag zo]
 refine Zz ?_;refine yk _ R5 (fk k A n o hb0) ?_;rintro _ ⟨L,rfl,T,z,p,O⟩;refine yE (a:=b) (s:=L) R6 zo ?_;have c:b/2^L=z:=by rw [p];exact BY _ (Bz zo)
 have U:z≤b:=by rw [←c];exact Bk _ _
 rw [c];obtain ⟨l,f,g⟩:=zfe F p O;refine Za ?_;by_cases hgt:z<a
 ·rw [FW zo] at l f g;rw [HJ zo] at f g;refine Zn ?_;refine Zg ?_;refine xL (a:=a) (b:=z) R6 zo ?_;refine Za ?_;exact goOn (z,a-z) g ⟨rfl,rfl,rfl,eP⟩ ⟨rfl,rfl,rfl,l,by show z<_;omega,by show a-z<_;omega,f.trans j⟩
 rw [Be zo] at l f g;rw [Hk zo] at f g;refine Zd ?_;refine Zm ?_;refine xL (a:=z) (b:=a) R6 zo ?_;refine Za ?_;exact goOn (a,z-a) g ⟨rfl,rfl,rfl,eP⟩ ⟨rfl,rfl,rfl,l,m,by show z-a<_;omega,f.trans j⟩
def NewU (n:Nat)(h:HF)(v:Value)(h':HF)(n':Nat)(w:List Nat)(L:List Nat):Prop:=w=[]∧n≤n'∧Ext n h h'∧∃a' c',v=jx a' (gP L) c'∧Sl h' n' 1 v (u32s L)∧Norm L∧yj n v
theorem jC {D:List Nat}{d:Nat}(h:Dig D)(b:d<4294967296):Dig (D++[d]):=fun x a=>by
 rcases Al.1 a with a|a
 ·exact h x a
 simp at a;omega
theorem gZ (k:Nat){h:HF}{n:Nat}{y F:Option Addr}{l1 G l2 H:Nat}{A C:List Nat}(N:Sl h n 1 (jx y l1 G) (u32s A))(O:Sl h n 1 (jx F l2 H) (u32s C))(R:Dig A)(M:Dig C)(u:gP A<1000000000∧gP C<1000000000):
  CF (cal (k+2)) 110 [jx y l1 G,jx F l2 H] h n fun v s J w=>∃L,NewU n h v s J w L∧val L=val A+val C:=by
 refine zu (fn:=Tryz.f110) R4 ?_;have e1:=N.lenU;have W:=O.lenU;subst e1 W;refine Zx ?_;refine yu (α:=(Option Addr×Nat×List Nat)×(Option Addr×Nat×List Nat)) (fun z=>[(0,jx z.1.1 (gP z.1.2.2) z.1.2.1),(1,jx z.2.1 (gP z.2.2.2) z.2.2.1)])
  (fun z s J w=>h=s∧n=J∧w=[]∧Sl h n 1 (jx z.1.1 (gP z.1.2.2) z.1.2.1) (u32s z.1.2.2)∧Sl h n 1 (jx z.2.1 (gP z.2.2.2) z.2.2.1) (u32s z.2.2.2)∧Dig z.1.2.2∧Dig z.2.2.2∧gP z.2.2.2≤gP z.1.2.2∧gP z.1.2.2<1000000000∧val z.1.2.2+val z.2.2.2=val A+val C) ?_ ?_
 ·by_cases hlt:gP A<gP C
  ·rw [ze (by show kz _=_;rw [bO zo])];refine Zb ?_;exact zO ((F,H,C),(y,G,A)) ⟨rfl,rfl,eP⟩ ⟨rfl,rfl,rfl,O,N,M,R,by show gP A≤gP C;omega,u.2,Nat.add_comm _ _⟩
  rw [za (by show kz _=_;rw [aD zo])];refine zN ?_;exact zO ((y,G,A),(F,H,C)) ⟨rfl,rfl,eP⟩ ⟨rfl,rfl,rfl,N,O,R,M,by show gP C≤gP A;omega,u.1,rfl⟩
 rintro ⟨⟨y,G,a⟩,F,H,f⟩ t _ _ _ ⟨rfl,rfl,rfl,N,O,R,M,T,u,I⟩;simp only at N O R M T u I;rw [←I];clear I;refine Zf ?_;refine wO (len:=gP a+1) (cap:=gP a+1) R9 zo ?_;rw [show zC (jy .u32 0)=[jy .u32 0] from rfl,jj];refine Zl ?_;refine Za ?_;refine z9 (α:=List Nat×Nat) (fun z=>[(0,jx y (gP a) G),(1,jx F (gP f) H),(5,jx (some ⟨3*n+2,0,none⟩) (gP a+1) (gP a+1)),(6,jy .u64 (z.2:Int)),(7,jy .i64 (gP z.1:Int))])
  (fun z s J w=>J=n+1∧w=[]∧Ext n h s∧(∃e,s (3*n+2)=some (.row (u32s (z.1++pl (gP a-gP z.1+1) 0)) e))∧gP z.1≤gP a∧Dig z.1∧z.2≤1∧dv 4294967296 z.1+z.2*4294967296^gP z.1=dv 4294967296 (a.take (gP z.1))+dv 4294967296 (f.take (gP z.1))) (fun z=>gP a-gP z.1)
  ([],0) ⟨rfl,rfl,rfl,rfl,rfl,eP⟩ ⟨rfl,rfl,Ext.upd zo,⟨_,zh _ _ _⟩,eU,fun d hd=>cA hd nN,by decide,by simp [dv]⟩ (by show gP a-0<LL;unfold LL;omega) ?_
 rintro ⟨D,c⟩ t h1 _ _ ⟨rfl,rfl,K,⟨e,q⟩,hD,U,hc,hV⟩;simp only at q hD U hc hV;refine zN ?_;by_cases hi:gP D=gP a
 ·refine Zj ?_;rw [hi,A7] at q;repeat refine zU ?_
  refine nI (j:=gP a) (v:=jy .u32 (c:Int)) R8 rfl (by rw [xv];simp;omega) q (by show 3*n≤3*n+2;omega) (fun _=>rfl) R3 (fun _=>rfl) rfl fun _=>?_;rw [qf,←hi,oO,CI,A3];refine Zf ?_;refine zB _ R5 (rJ k (l:=D++[c]) (by simp;omega) (.at_ zo (zh _ _ _) rfl zo (by simp [u32s]<;>omega) (by rw [Aa (by simp [u32s]<;>omega)];simp))) ?_;rintro v' _ _ _ ⟨rfl,rfl,rfl,rfl,hs⟩;refine Za ?_;refine retH _ ⟨rfl,(zk rfl),rfl⟩ ⟨yS (D++[c]),⟨rfl,by show n≤n+1;omega,fun b u=>(zj zo).trans (K b u),_,_,rfl,hs,Norm.trim (jC U zo),by show 3*n≤3*n+2;omega⟩,?_⟩;rw [vi,vh,rV,vh,vh,vT];rw [hi,Ax,Aa T,←hi] at hV;omega
 obtain ⟨o,S⟩:∃x,a[gP D]?=some x:=⟨a[gP D]'zo,k4 zo⟩;have a3:o<4294967296:=R o (ns S);have Y:=N.ext K (ux n);have Z:=O.ext K (ux n);refine Zr ?_;refine xt R7 Y R2 S (fun _=>rfl) R4 fun _=>?_;repeat refine zU ?_
 refine Zb ?_;have a0:(f[gP D]?).getD 0<4294967296:=by
  cases hc':f[gP D]? with
  |none=>decide
  |some x=>exact M x (ns hc')
 refine lQ [(0,jx y (gP a) G),(1,jx F (gP f) H),(5,jx (some ⟨3*n+2,0,none⟩) (gP a+1) (gP a+1)),(6,jy .u64 ((c+o+(f[gP D]?).getD 0:Nat):Int)),(7,jy .i64 (gP D:Int))] (fun s J w=>h1=s∧J=n+1∧w=[]) ?_ ?_
 ·by_cases hj:gP D<gP f
  ·obtain ⟨g,i⟩:∃x,f[gP D]?=some x:=⟨f[gP D]'zo,k4 zo⟩;have a4:g<4294967296:=M g (ns i);rw [ze (by show kz _=_;rw [bO zo])];refine Zf ?_;refine xt R7 Z R2 i (fun _=>rfl) R4 fun _=>?_;repeat refine zU ?_
   refine zN ?_;rw [i];exact vv ⟨rfl,rfl,rfl,rfl,rfl,eP⟩ ⟨rfl,rfl,rfl⟩
  rw [za (by show kz _=_;rw [aD zo])];refine zN ?_;rw [Ad zo];exact vv ⟨rfl,rfl,rfl,rfl,rfl,eP⟩ ⟨rfl,rfl,rfl⟩
 rintro t2 _ _ _ ⟨rfl,rfl,rfl⟩;generalize i:(f[gP D]?).getD 0=g at a0 ⊢;refine Zf ?_;refine xC R7 ?_;obtain ⟨m,hm⟩:∃m,gP a-gP D=m+1:=⟨gP a-gP D-1,zo⟩;rw [hm] at q;refine nI (j:=gP D) (v:=jy .u32 (((c+o+g)%4294967296:Nat):Int)) R8 rfl (by simp [xv];omega) q (by show 3*n≤3*n+2;omega) (fun _=>rfl) R3 (fun _=>rfl) rfl fun _=>?_;rw [qf,oO];refine zN ?_;repeat refine zU ?_
 refine Zb ?_;refine goOn (D++[(c+o+g)%4294967296],(c+o+g)/4294967296) (by simp;omega) ⟨rfl,rfl,rfl,rfl,by show jy .i64 _=jy .i64 _;simp,eP⟩ ⟨rfl,rfl,fun b u=>(zj zo).trans (K b u),⟨e,(zh _ _ _).trans (by show some (BF.row (u32s (D++[_]++pl (m+1) 0)) e)=some (BF.row (u32s (D++[_]++pl (gP a-gP (D++[_])+1) 0)) e);rw [nn,xl,show (gP a)-(gP D+1)+1=m+1 from zo])⟩,by simp;omega,jC U (Bo _ zo),by show _/_≤1;omega,?_⟩;have W:dv 4294967296 (f.take (gP D+1))=dv 4294967296 (f.take (gP D))+4294967296^gP D*g:=by
  by_cases hj:gP D<gP f
  ·have:f[gP D]?=some g:=by rw [←i,k4 hj];rfl
   exact xG this
  rw [Ad zo] at i;simp only [Hl] at i;rw [Aa zo,Aa zo,←i];simp
 show dv 4294967296 (D++[_])+_*4294967296^gP (D++[_])=dv 4294967296 (a.take (gP (D++[_])))+dv 4294967296 (f.take (gP (D++[_])));simp only [nn,xl];rw [xG S,W,Ar];have:=zci (B:=4294967296) (P:=4294967296^gP D) (V:=dv 4294967296 D) (V':=dv 4294967296 (D++[(c+o+g)%4294967296])) (c:=c) (p:=o+g) (by rw [rV,vT]) (c':=(c+o+g)/4294967296) zo;rw [this,AH o g,vT o,vT g];omega
theorem zgx {V' o c:Nat}(h:V'+o*P=V+d*P)(f:B*c'+d=c+p+o):V'+c'*(P*B)=V+c*P+p*P:=by
 have e:(B*c'+d)*P=(c+p+o)*P:=by rw [f]
 rw [AH,AH,AH] at e;have a:c'*(P*B)=B*c'*P:=by rw [vT P B,←Az,vT c' B]
 rw [a];omega
theorem Sl.own {O:List Nat}(a:h b=some (.row (u32s O) e))(c:b<3*m)(hl:gP O=len)(f:len≤cap):Sl h m 1 (jx (some ⟨b,0,none⟩) len cap) (u32s O):=
 .at_ c a rfl f (by rw [xv];omega) (by rw [AQ,Aa (by rw [xv];omega)])
theorem zge {O:List Nat}(h:Dig O)(c:d<4294967296):Dig (O.set j d):=fun x a=>by
 rcases Bd a with a|a
 ·exact h x a
 omega
theorem hH (k:Nat){S T:Nat}(hA:Sl h n 1 (jx a1 l1 S) (u32s A))(hC:Sl h n 1 (jx a2 l2 T) (u32s C))(dA:Dig A)(dC:Dig C)(Y:gP A<1000000000∧gP C<1000000000):
  CF (cal (k+2)) 105 [jx a1 l1 S,jx a2 l2 T] h n fun v s G w=>∃L,NewU n h v s G w L∧val L=val A*val C:=by
 refine zu (fn:=Tryz.f105) R4 ?_;have e1:=hA.lenU;have U:=hC.lenU;subst e1 U;refine Zb ?_;by_cases D:gP A=0∨gP C=0
 ·have hz:val A*val C=0:=by
   rcases D with D|D
   ·rw [xd.1 D];simp [val]
   rw [xd.1 D];simp [val]
  have Z:∀t:TF,t 4=jx none 0 0→RetH Tryz.f105 (fun v s G w=>∃L,NewU n h v s G w L∧val L=val A*val C) .ret ⟨t,h,n,[]⟩:=fun t ht=>
   retH [jx none 0 0] ⟨rfl,(zk ht),rfl⟩ ⟨[],⟨rfl,eT,Ext.refl _ _,none,0,rfl,.nil (.inl rfl),Norm.nil,eP⟩,by rw [hz];rfl⟩
  by_cases h1:gP A=0
  ·refine Zn ?_;exact Z _ rfl
  refine Zn ?_;exact Z _ rfl
 have a6:gP A≠0:=fun e=>D (.inl e);have a7:gP C≠0:=fun e=>D (.inr e);refine Zw ?_;refine wO (len:=gP A+gP C) (cap:=gP A+gP C) R9 zo ?_;rw [show zC (jy .u32 0)=[jy .u32 0] from rfl,jj];refine Zl ?_;refine z9 (α:=Nat×List Nat) (fun z=>[(0,jx a1 (gP A) S),(1,jx a2 (gP C) T),(5,jx (some ⟨3*n+2,0,none⟩) (gP A+gP C) (gP A+gP C)),(6,jy .i64 (z.1:Int))])
  (fun z s G w=>G=n+1∧w=[]∧Ext n h s∧(∃e,s (3*n+2)=some (.row (u32s z.2) e))∧z.1≤gP A∧Dig z.2∧gP z.2=gP A+gP C∧z.2.drop (z.1+gP C)=pl (gP A-z.1) 0∧dv 4294967296 z.2=dv 4294967296 (A.take z.1)*dv 4294967296 C) (fun z=>gP A-z.1)
  (0,pl (gP A+gP C) 0) ⟨rfl,rfl,rfl,rfl,eP⟩ ⟨rfl,rfl,Ext.upd zo,⟨_,zh _ _ _⟩,eU,fun d hd=>by rw [De hd];decide,gN,gN,by simp [dv,pW]⟩ (by show gP A-0<LL;unfold LL;omega) ?_
 rintro ⟨i,O⟩ t h1 _ _ ⟨rfl,rfl,a0,⟨e,F⟩,hi,dO,J,K,hV⟩;simp only at F hi dO J K hV;refine zN ?_;by_cases hiA:i=gP A
 ·subst hiA;refine Zw ?_;refine zB _ R5 (rJ k (l:=O) zo (Sl.own F zo J eT)) ?_;rintro v' _ _ _ ⟨rfl,rfl,rfl,rfl,hs⟩;refine Za ?_;refine retH _ ⟨rfl,(zk rfl),rfl⟩ ⟨yS O,⟨rfl,by show n≤n+1;omega,a0,_,_,rfl,hs,Norm.trim dO,by show 3*n≤3*n+2;omega⟩,?_⟩;rw [vi,vh,vh,vh,hV,Ax]
 obtain ⟨g,N⟩:∃x,A[i]?=some x:=⟨A[i]'zo,k4 zo⟩;have a4:g<4294967296:=dA g (ns N);refine Zn ?_;refine Za ?_;refine z9 (α:=Nat×Nat×List Nat) (fun z=>[(0,jx a1 (gP A) S),(1,jx a2 (gP C) T),(5,jx (some ⟨3*n+2,0,none⟩) (gP A+gP C) (gP A+gP C)),(6,jy .i64 (i:Int)),(7,jy .u64 (z.2.1:Int)),(8,jy .i64 (z.1:Int))])
  (fun z s G w=>G=n+1∧w=[]∧Ext n h s∧(∃e,s (3*n+2)=some (.row (u32s z.2.2) e))∧z.1≤gP C∧Dig z.2.2∧gP z.2.2=gP A+gP C∧z.2.1<4294967296∧z.2.2.drop (i+gP C)=O.drop (i+gP C)∧dv 4294967296 z.2.2+z.2.1*4294967296^(i+z.1)=dv 4294967296 O+g*4294967296^i*dv 4294967296 (C.take z.1)) (fun z=>gP C-z.1)
  (0,0,O) ⟨rfl,rfl,rfl,rfl,rfl,rfl,eP⟩ ⟨rfl,rfl,a0,⟨e,F⟩,eU,dO,J,by show 0<4294967296;decide,rfl,by simp [dv]⟩ (by show gP C-0<LL;unfold LL;omega) ?_
 rintro ⟨j,c,a⟩ t2 h2 _ _ ⟨rfl,rfl,I,⟨U,f⟩,hj,H,u,hc,y,M⟩;simp only at f hj H u hc y M;refine zN ?_;by_cases hjC:j=gP C
 ·subst hjC;refine Zj ?_;repeat refine zU ?_
  refine nI (j:=i+gP C) (v:=jy .u32 (c:Int)) R8 zo (by rw [xv];omega) f (by show 3*n≤3*n+2;omega) (fun _=>rfl) R3 (fun _=>rfl) rfl fun _=>?_;rw [qf];refine Zb ?_;have a3:a[i+gP C]?=some 0:=by
   have:(a.drop (i+gP C))[0]?=(pl (gP A-i) 0)[0]?:=by rw [y,K]
   rw [B3,BC] at this;rw [this,List.getElem?_replicate,eN zo]
  refine goOn (i+1,a.set (i+gP C) c) (by show gP A-(i+1)<gP A-i;omega) ⟨rfl,rfl,rfl,by show jy .i64 _=jy .i64 _;congr 1,eP⟩ ⟨rfl,rfl,fun b Y=>(zj zo).trans (I b Y),⟨U,zh _ _ _⟩,by show i+1≤gP A;omega,zge H hc,by show gP (a.set _ _)=_;rw [AY];exact u,?_,?_⟩
  ·show (a.set (i+gP C) c).drop (i+1+gP C)=_;rw [D8 zo];have:=congrArg (List.drop 1) (y.trans K);rw [List.drop_drop] at this;rw [show i+1+gP C=i+gP C+1 from zo,this];simp;omega
  show dv 4294967296 (a.set (i+gP C) c)=dv 4294967296 (A.take (i+1))*dv 4294967296 C;have W:=zf0 (B:=4294967296) c a3;rw [BE,BC] at W;rw [W,M,Ax,xG N,AH,hV,vT g]
 obtain ⟨q,R⟩:∃x,C[j]?=some x:=⟨C[j]'zo,k4 zo⟩;have a5:q<4294967296:=dC q (ns R);obtain ⟨o,ho⟩:∃x,a[i+j]?=some x:=⟨a[i+j]'zo,k4 zo⟩;have a8:o<4294967296:=H o (ns ho);have hp:g*q≤4294967295*4294967295:=AD zo zo;refine Zp ?_;rw [xV rfl];repeat refine zR ?_
 refine xt R7 (hA.ext I (ux n)) R2 N (fun _=>rfl) R4 fun _=>?_;repeat refine zU ?_
 refine xt R7 (hC.ext I (ux n)) R2 R (fun _=>rfl) R4 fun _=>?_;repeat refine zU ?_
 refine xt (j:=i+j) R7 (Sl.own f (show _<3*(n+1) by omega) u eT) ⟨rfl,zo⟩ ho (fun _=>rfl) R4 fun _=>?_;generalize hpp:g*q=p at hp;repeat refine zU ?_
 refine Zf ?_;refine xC R7 ?_;refine nI (j:=i+j) (v:=jy .u32 (((c+(p+o))%4294967296:Nat):Int)) R8 zo (by rw [xv];omega) f (by show 3*n≤3*n+2;omega) (fun _=>rfl) R3 (fun _=>rfl) rfl fun _=>?_;rw [qf];refine zN ?_;repeat refine zU ?_
 refine Zb ?_;refine goOn (j+1,(c+(p+o))/4294967296,a.set (i+j) ((c+(p+o))%4294967296)) (by show gP C-(j+1)<gP C-j;omega) ⟨rfl,rfl,rfl,rfl,rfl,by show jy .i64 _=jy .i64 _;congr 1,eP⟩ ⟨rfl,rfl,fun b Y=>(zj zo).trans (I b Y),⟨U,zh _ _ _⟩,by show j+1≤gP C;omega,zge H (Bo _ zo),by show gP (a.set _ _)=_;rw [AY];exact u,by show _/_<_;omega,?_,?_⟩
 ·show (a.set (i+j) _).drop (i+gP C)=_;rw [D8 zo];exact y
 show dv 4294967296 (a.set (i+j) _)+_*4294967296^(i+(j+1))=dv 4294967296 O+g*4294967296^i*dv 4294967296 (C.take (j+1));have W:=zgx (B:=4294967296) (c:=c) (p:=p) (c':=(c+(p+o))/4294967296) (zf0 (B:=4294967296) ((c+(p+o))%4294967296) ho) zo;rw [show i+(j+1)=i+j+1 from zo,Ar,W,M,xG R,A1,←hpp,Bq];have e4:g*4294967296^i*(4294967296^j*q)=g*q*(4294967296^i*4294967296^j):=by
  rw [vT (4294967296^j) q,←Az,Az g,vT (4294967296^i) q,←Az,Az (g*q)]
 rw [e4];omega
theorem zdh (k:Nat){h:HF}{n:Nat}{F G:Option Addr}{Z H l2 I:Nat}{A C:List Nat}(N:Sl h n 1 (jx F Z H) (u32s A))(P:Sl h n 1 (jx G l2 I) (u32s C))(dA:Dig A)(M:Dig C)(T:gP A<1000000000)(W:gP C≤gP A)(Y:val C≤val A):
  CF (cal (k+2)) 112 [jx F Z H,jx G l2 I] h n fun v q y w=>∃L,NewU n h v q y w L∧val L=val A-val C:=by
 refine zu (fn:=Tryz.f112) R4 ?_;have e1:=N.lenU;have K:=P.lenU;subst e1 K;refine Zv ?_;refine wO (len:=gP A) (cap:=gP A) R9 zo ?_;rw [show zC (jy .u32 0)=[jy .u32 0] from rfl,jj];refine Zl ?_;refine Za ?_;refine z9 (α:=List Nat×Nat) (fun z=>[(0,jx F (gP A) H),(1,jx G (gP C) I),(5,jx (some ⟨3*n+2,0,none⟩) (gP A) (gP A)),(6,jy .u64 (z.2:Int)),(7,jy .i64 (gP z.1:Int))])
  (fun z q y w=>y=n+1∧w=[]∧Ext n h q∧(∃e,q (3*n+2)=some (.row (u32s (z.1++pl (gP A-gP z.1) 0)) e))∧gP z.1≤gP A∧Dig z.1∧z.2≤1∧dv 4294967296 z.1+dv 4294967296 (C.take (gP z.1))=dv 4294967296 (A.take (gP z.1))+z.2*4294967296^gP z.1) (fun z=>gP A-gP z.1)
  ([],0) ⟨rfl,rfl,rfl,rfl,rfl,eP⟩ ⟨rfl,rfl,Ext.upd zo,⟨_,zh _ _ _⟩,eU,fun d hd=>cA hd nN,by decide,by simp [dv]⟩ (by show gP A-0<LL;unfold LL;omega) ?_
 rintro ⟨D,c⟩ t h1 _ _ ⟨rfl,rfl,p,⟨e,g⟩,hD,J,hc,S⟩;simp only at g hD J hc S;refine zN ?_;by_cases hi:gP D=gP A
 ·refine Zj ?_;rw [hi,A7,CI,A3] at g;repeat refine zR ?_
  refine zB _ R5 (rJ k (l:=D) zo (Sl.own g zo hi eT)) ?_;rintro v' _ _ _ ⟨rfl,rfl,rfl,rfl,hs⟩;refine Za ?_;refine retH _ ⟨rfl,(zk rfl),rfl⟩ ⟨yS D,⟨rfl,by show n≤n+1;omega,p,_,_,rfl,hs,Norm.trim J,by show 3*n≤3*n+2;omega⟩,?_⟩;rw [vi,vh];rw [vh,vh] at Y ⊢;rw [hi,Ax,Aa W,←hi] at S;have a4:=zji (B:=4294967296) J;have U:c=0∨c=1:=zo;rcases U with rfl|rfl<;>omega
 obtain ⟨o,u⟩:∃x,A[gP D]?=some x:=⟨A[gP D]'zo,k4 zo⟩;have a0:o<4294967296:=dA o (ns u);have O:=N.ext p (ux n);have R:=P.ext p (ux n);refine Zr ?_;refine xt R7 O R2 u (fun _=>rfl) R4 fun _=>?_;refine uM R7 zo ?_;refine zM ?_;refine uL (a:=o) (b:=c) R6 zo ?_;refine Zl ?_;have V:(C[gP D]?).getD 0<4294967296:=by
  cases hc':C[gP D]? with
  |none=>decide
  |some x=>exact M x (ns hc')
 refine lQ [(0,jx F (gP A) H),(1,jx G (gP C) I),(5,jx (some ⟨3*n+2,0,none⟩) (gP A) (gP A)),(7,jy .i64 (gP D:Int)),(8,jy .u64 (((o+18446744073709551616-(c+(C[gP D]?).getD 0))%18446744073709551616:Nat):Int))] (fun q y w=>h1=q∧y=n+1∧w=[]) ?_ ?_
 ·by_cases hj:gP D<gP C
  ·obtain ⟨i,f⟩:∃x,C[gP D]?=some x:=⟨C[gP D]'zo,k4 zo⟩;have a3:i<4294967296:=M i (ns f);rw [ze (by show kz _=_;rw [bO zo])];refine Zf ?_;refine xt R7 R R2 f (fun _=>rfl) R4 fun _=>?_;refine uM R7 zo ?_;refine uL (a:=(o+18446744073709551616-c)%18446744073709551616) (b:=i) R6 zo ?_;refine Za ?_;rw [f];exact vv ⟨rfl,rfl,rfl,rfl,by show jy .u64 _=jy .u64 _;congr 2;simp only [Hm];omega,eP⟩ ⟨rfl,rfl,rfl⟩
  rw [za (by show kz _=_;rw [aD zo])];refine zN ?_;rw [Ad zo];exact vv ⟨rfl,rfl,rfl,rfl,rfl,eP⟩ ⟨rfl,rfl,rfl⟩
 rintro t2 _ _ _ ⟨rfl,rfl,rfl⟩;generalize f:(C[gP D]?).getD 0=i at V ⊢;obtain ⟨X,hX⟩:∃X,X=(o+18446744073709551616-(c+i))%18446744073709551616:=⟨_,rfl⟩;rw [←hX];refine Zf ?_;refine xC R7 ?_;obtain ⟨m,hm⟩:∃m,gP A-gP D=m+1:=⟨gP A-gP D-1,zo⟩;rw [hm] at g;refine nI (j:=gP D) (v:=jy .u32 ((X%4294967296:Nat):Int)) R8 rfl (by simp [xv]<;>omega) g (by show 3*n≤3*n+2;omega) (fun _=>rfl) R3 (fun _=>rfl) rfl fun _=>?_;rw [qf,oO];refine Zc ?_;refine yE (s:=32) R6 zo ?_;refine qX (a:=X/2^32) (b:=1) R6 zo ?_;rw [Nat.and_one_is_mod];refine Zl ?_;refine goOn (D++[X%4294967296],X/2^32%2) (by simp;omega) ⟨rfl,rfl,rfl,rfl,by show jy .i64 _=jy .i64 _;simp,eP⟩ ⟨rfl,rfl,fun b T=>(zj zo).trans (p b T),⟨e,(zh _ _ _).trans (by show some (BF.row (u32s (D++[_]++pl m 0)) e)=some (BF.row (u32s (D++[_]++pl (gP A-gP (D++[_])) 0)) e);rw [nn,xl,show (gP A)-(gP D+1)=m from zo])⟩,by simp;omega,jC J (Bo _ zo),by show _%_≤1;omega,?_⟩;have K:dv 4294967296 (C.take (gP D+1))=dv 4294967296 (C.take (gP D))+4294967296^gP D*i:=by
  by_cases hj:gP D<gP C
  ·have:C[gP D]?=some i:=by rw [←f,k4 hj];rfl
   exact xG this
  rw [Ad zo] at f;simp only [Hl] at f;rw [Aa zo,Aa zo,←f];simp
 show dv 4294967296 (D++[_])+dv 4294967296 (C.take (gP (D++[_])))=dv 4294967296 (A.take (gP (D++[_])))+_*4294967296^gP (D++[_]);simp only [nn,xl];rw [xG u,K,Ar (n:=4294967296),rV];have e3:X%4294967296+i+c=o+X/2^32%2*4294967296:=zo;have e4:4294967296^gP D*(X%4294967296+i+c)=4294967296^gP D*(o+X/2^32%2*4294967296):=by rw [e3]
 rw [A1,A1,A1] at e4;have e5:X/2^32%2*(4294967296^gP D*4294967296)=4294967296^gP D*(X/2^32%2*4294967296):=by rw [BP]
 rw [e5];have e6:c*4294967296^gP D=4294967296^gP D*c:=vT _ _;omega
def DivR (n:Nat)(h:HF)(A C:List Nat)(v:Value)(h':HF)(n':Nat)(w:List Nat):Prop:=w=[]∧n≤n'∧Ext n h h'∧∃aq cq Lq ar cr Lr,v=.tuple #[jx aq (gP Lq) cq,jx ar (gP Lr) cr]∧Sl h' n' 1 (jx aq (gP Lq) cq) (u32s Lq)∧Sl h' n' 1 (jx ar (gP Lr) cr) (u32s Lr)∧Norm Lq∧Norm Lr∧val Lq=val A/val C∧val Lr=val A%val C∧yj n (jx aq (gP Lq) cq)∧yj n (jx ar (gP Lr) cr)
theorem Norm.len_le {A B:List Nat}(a:Norm A)(b:Norm B)(h:val B≤val A):gP B≤gP A:=by
 apply An;intro c;have:=a.len_lt b zo;omega
end Go.Proofs.YtfajmfoofmienaaGreatDoor
namespace Go.Proofs.YtfajmfoofmienaaGreatDoor
variable {top v1 v2 vr w2 wr B P h r:Nat}
theorem iZ {a b c P:Nat}(d:a*P≤b)(e:b<c*P):a<c:=by
 apply An;intro f;have:c*P≤a*P:=Ab P zo;omega
theorem am (d:0<v1)(e:w2<B)(f:wr<P):((top*B+w2)*P+wr)/((v1*B+v2)*P+vr)≤top/v1:=by
 generalize hQ:((top*B+w2)*P+wr)/((v1*B+v2)*P+vr)=Q;have a:Q*((v1*B+v2)*P+vr)≤(top*B+w2)*P+wr:=by rw [←hQ];exact Gy _ _
 rw [EA d];have b:(Q*v1)*(B*P)≤Q*((v1*B+v2)*P+vr):=by
  rw [Az];apply A9;rw [←Az,AH];omega
 have c:(top*B+w2)*P+wr<(top+1)*(B*P):=by
  have:(top*B+w2+1)*P≤(top*B+B)*P:=Ab _ zo;rw [AH _ 1,Bs] at this;rw [←Az,AH top,Bs];omega
 have:=iZ (Ap b a) c;omega
theorem ze4 (f:w2<B)(g:wr<P)(e:h*v1+r=top)(j:r*B+w2<h*v2):((top*B+w2)*P+wr)/((v1*B+v2)*P+vr)<h:=by
 generalize hQ:((top*B+w2)*P+wr)/((v1*B+v2)*P+vr)=Q;have b:Q*((v1*B+v2)*P+vr)≤(top*B+w2)*P+wr:=by rw [←hQ];exact Gy _ _
 apply An;intro l;have c:(h*(v1*B+v2))*P≤Q*((v1*B+v2)*P+vr):=by
  have a:h*((v1*B+v2)*P)≤Q*((v1*B+v2)*P+vr):=AD zo zo;rw [Az];exact a
 have a:(top*B+w2)*P+wr<(top*B+w2+1)*P:=by rw [AH _ 1,Bs];omega
 have d:=iZ (Ap c b) a;rw [←e,A1,AH] at d;have i:h*(v1*B)=h*v1*B:=by rw [Az]
 omega
end Go.Proofs.YtfajmfoofmienaaGreatDoor
namespace Go.Proofs.YtfajmfoofmienaaGreatDoor
open Go Go.GL
variable {n n1 bytes m size K l1 l2 vc uc b j:Nat}{w A C V U:List Nat}{new:List Value}{a1 a2 va ua:Option Addr}{sv qv vb vd ve z:Value}{e:TypeId}
variable {h:HF}{sT:TypeId}
def subC:List Nat→Code→Option Code
 |[],c=>some c
 |0::p,.seq a _=>subC p a
 |1::p,.seq _ b=>subC p b
 |0::p,.cond _ a _=>subC p a
 |1::p,.cond _ _ b=>subC p b
 |0::p,.block _ b=>subC p b
 |0::p,.loop b=>subC p b
 |0::p,.scope b=>subC p b
 |_,_=>none
def oH (f:Func)(p:List Nat):Option Code:=match f.body with|some b=>subC p b|none=>none
section
variable {h:HF}{t:TF}
set_option maxRecDepth 100000
end
theorem zk4 {top v1 v2 w q r:Nat}(a:q*v1+r=top)(c:0<v1*4294967296+v2)(b:(top*4294967296+w)/(v1*4294967296+v2)≤q)(d:q*v2≤r*4294967296+w):q=(top*4294967296+w)/(v1*4294967296+v2):=by
 apply Nat.le_antisymm _ b;rw [EA c,←a];have e:q*(v1*4294967296+v2)=q*v1*4294967296+q*v2:=by rw [A1,Az]
 rw [e,AH];omega
section
variable {h:HF}{t:TF}{va vc:Value}
set_option maxRecDepth 100000
theorem zcc {top v1 v2 w2:Nat}(I:2147483648≤v1∧v1<4294967296)(T:v2<4294967296)(C:w2<4294967296)(A:top<v1*4294967296+v2)
  {c:Code}(F:oH Tryz.f216 [1,1,1,1,1,1,1,1,1,1,1,1,1,1,0]=some c){Q:Ex→SV→Prop}
  (M:wU t [(2,va),(8,vb),(11,vc),(14,vd),(9,jy .u64 (v1:Int)),(10,jy .u64 (v2:Int)),(13,jy .u64 (w2:Int)),(15,jy .u64 ((top/v1:Nat):Int)),(16,jy .u64 ((top%v1:Nat):Int))])
  (y:∀(t':TF) (g:Nat),g=(top*4294967296+w2)/(v1*4294967296+v2)→wU t' [(2,va),(8,vb),(11,vc),(14,vd),(9,jy .u64 (v1:Int)),(10,jy .u64 (v2:Int)),(13,jy .u64 (w2:Int)),(15,jy .u64 (g:Int))]→Q .normal ⟨t',h,n1,w⟩):EC (ctx K n (Tryz.f216).ntmps) c ⟨t,h,n1,w⟩ Q:=by
 obtain rfl:=A0 (F.symm.trans (rfl:oH Tryz.f216 [1,1,1,1,1,1,1,1,1,1,1,1,1,1,0]=some _));clear F;have d:top%v1<v1:=Bo _ zo;have o:=am (B:=4294967296) (P:=1) (v1:=v1) (v2:=v2) (vr:=0) (w2:=w2) (wr:=0) (top:=top) zo C zo;have s:∀a b:Nat,a*v1+b=top→b*4294967296+w2<a*v2→(top*4294967296+w2)/(v1*4294967296+v2)<a:=fun a b v p=>by
  have:=ze4 (B:=4294967296) (P:=1) (v1:=v1) (v2:=v2) (vr:=0) (w2:=w2) (wr:=0) (top:=top) C zo v p;simpa using this
 simp only [AO,BC] at o;have G:(top*4294967296+w2)/(v1*4294967296+v2)<4294967296:=by
  rw [BM zo];have:(top+1)*4294967296≤(v1*4294967296+v2)*4294967296:=Ab _ A;rw [vT 4294967296];omega
 generalize hgg:(top*4294967296+w2)/(v1*4294967296+v2)=g at o G s;have m:∀q r:Nat,q*v1+r=top→g≤q→q*v2≤r*4294967296+w2→q=g:=fun q r v p J=>by
  rw [←hgg] at p ⊢;exact zk4 v zo p J
 refine zN ?_;refine z9 (α:=Nat×Nat) (fun z=>[(2,va),(8,vb),(11,vc),(14,vd),(9,jy .u64 (v1:Int)),(10,jy .u64 (v2:Int)),(13,jy .u64 (w2:Int)),(15,jy .u64 (z.1:Int)),(16,jy .u64 (z.2:Int))])
  (fun z L N O=>h=L∧n1=N∧w=O∧z.1*v1+z.2=top∧g≤z.1∧z.2<4294967296) (fun z=>z.1) (top/v1,top%v1) M ⟨rfl,rfl,rfl,by rw [vT];exact Bw _ _,o,by show _%_<_;omega⟩ (by show top/v1<LL;have:top/v1≤top:=Bk _ _;unfold LL;omega) ?_
 rintro ⟨a,b⟩ Z _ _ _ ⟨rfl,rfl,rfl,f,u,H⟩;simp only at f u H;have R:a<18446744073709551616:=by
  have D:a*2147483648≤a*v1:=A9 _ I.1;omega
 have e:g<a→(a-1)*v1+(b+v1)=top:=fun d=>by
  obtain ⟨x,rfl⟩:∃x,a=x+1:=⟨a-1,zo⟩;rw [AH,Bs] at f;simp only [Cv];omega
 have l:g<a→4294967296≤b+v1→a-1=g:=fun d i=>by
  have D:=e d;have U:a-1<4294967296:=by
   apply An;intro Y;have:4294967296*v1≤(a-1)*v1:=Ab _ zo;omega
  refine m _ _ D zo ?_;have V:(a-1)*v2≤4294967296*4294967296:=AD zo zo;have W:4294967296*4294967296≤(b+v1)*4294967296:=Ab _ i;omega
 refine zN ?_;by_cases hB:4294967296≤a
 ·repeat refine zW ?_
  refine zN ?_;rw [ze rfl];refine zN ?_;repeat refine zW ?_
  refine zN ?_;repeat refine zW ?_
  refine zN ?_;by_cases i:4294967296≤b+v1
  ·repeat refine zW ?_
   refine zN ?_;rw [ze rfl];refine zN ?_;have j:=l zo i;exact y _ g hgg.symm ⟨rfl,rfl,rfl,rfl,rfl,rfl,rfl,by show jy .u64 _=jy .u64 _;rw [j],eP⟩
  repeat refine zW ?_
  refine zN ?_;refine ZA ?_;exact goOn (a-1,b+v1) (by show a-1<a;omega) ⟨rfl,rfl,rfl,rfl,rfl,rfl,rfl,rfl,rfl,eP⟩ ⟨rfl,rfl,rfl,e zo,by show g≤a-1;omega,by show b+v1<_;omega⟩
 have S:a*v2≤4294967295*4294967295:=AD zo zo;by_cases htest:4294967296*b+w2<a*v2
 ·have d:=s a b f zo;repeat refine zW ?_
  refine zN ?_;first
   |rw [ze rfl]
   |rw [ze (by show kz (decide _)=_;rw [bO (Eu.2 htest)])]
  refine zN ?_;repeat refine zW ?_
  refine zN ?_;repeat refine zW ?_
  refine zN ?_;by_cases i:4294967296≤b+v1
  ·repeat refine zW ?_
   refine zN ?_;rw [ze rfl];refine zN ?_;have j:=l d i;exact y _ g hgg.symm ⟨rfl,rfl,rfl,rfl,rfl,rfl,rfl,by show jy .u64 _=jy .u64 _;rw [j],eP⟩
  repeat refine zW ?_
  refine zN ?_;refine ZA ?_;exact goOn (a-1,b+v1) (by show a-1<a;omega) ⟨rfl,rfl,rfl,rfl,rfl,rfl,rfl,rfl,rfl,eP⟩ ⟨rfl,rfl,rfl,e d,by show g≤a-1;omega,by show b+v1<_;omega⟩
 repeat refine zW ?_
 refine zN ?_;first
  |rw [za rfl]
  |rw [za (by show kz (decide _)=_;rw [aD (fun h=>htest (Eu.1 h))])]
 refine zN ?_;have j:=m a b f u zo;exact y _ g hgg.symm ⟨rfl,rfl,rfl,rfl,rfl,rfl,rfl,by show jy .u64 _=jy .u64 _;rw [j],eP⟩
theorem zcb {top v1 v2 w2:Nat}(I:2147483648≤v1∧v1<4294967296)(T:v2<4294967296)(C:w2<4294967296)(A:top<v1*4294967296+v2)
  {c:Code}(F:oH Tryz.f216 [1,1,1,1,1,1,1,1,1,1,1,1,1,1,1,1,1,1,0]=some c){Q:Ex→SV→Prop}
  (M:wU t [(2,va),(8,vb),(15,vc),(17,vd),(9,jy .u64 (v1:Int)),(10,jy .u64 (v2:Int)),(14,jy .u64 (w2:Int)),(18,jy .u64 ((top/v1:Nat):Int)),(16,jy .u64 ((top%v1:Nat):Int))])
  (y:∀(t':TF) (g:Nat),g=(top*4294967296+w2)/(v1*4294967296+v2)→wU t' [(2,va),(8,vb),(15,vc),(17,vd),(9,jy .u64 (v1:Int)),(10,jy .u64 (v2:Int)),(14,jy .u64 (w2:Int)),(18,jy .u64 (g:Int))]→Q .normal ⟨t',h,n1,w⟩):EC (ctx K n (Tryz.f216).ntmps) c ⟨t,h,n1,w⟩ Q:=by
 obtain rfl:=A0 (F.symm.trans (rfl:oH Tryz.f216 [1,1,1,1,1,1,1,1,1,1,1,1,1,1,1,1,1,1,0]=some _));clear F;have d:top%v1<v1:=Bo _ zo;have o:=am (B:=4294967296) (P:=1) (v1:=v1) (v2:=v2) (vr:=0) (w2:=w2) (wr:=0) (top:=top) zo C zo;have s:∀a b:Nat,a*v1+b=top→b*4294967296+w2<a*v2→(top*4294967296+w2)/(v1*4294967296+v2)<a:=fun a b v p=>by
  have:=ze4 (B:=4294967296) (P:=1) (v1:=v1) (v2:=v2) (vr:=0) (w2:=w2) (wr:=0) (top:=top) C zo v p;simpa using this
 simp only [AO,BC] at o;have G:(top*4294967296+w2)/(v1*4294967296+v2)<4294967296:=by
  rw [BM zo];have:(top+1)*4294967296≤(v1*4294967296+v2)*4294967296:=Ab _ A;rw [vT 4294967296];omega
 generalize hgg:(top*4294967296+w2)/(v1*4294967296+v2)=g at o G s;have m:∀q r:Nat,q*v1+r=top→g≤q→q*v2≤r*4294967296+w2→q=g:=fun q r v p J=>by
  rw [←hgg] at p ⊢;exact zk4 v zo p J
 refine zN ?_;refine z9 (α:=Nat×Nat) (fun z=>[(2,va),(8,vb),(15,vc),(17,vd),(9,jy .u64 (v1:Int)),(10,jy .u64 (v2:Int)),(14,jy .u64 (w2:Int)),(18,jy .u64 (z.1:Int)),(16,jy .u64 (z.2:Int))])
  (fun z L N O=>h=L∧n1=N∧w=O∧z.1*v1+z.2=top∧g≤z.1∧z.2<4294967296) (fun z=>z.1) (top/v1,top%v1) M ⟨rfl,rfl,rfl,by rw [vT];exact Bw _ _,o,by show _%_<_;omega⟩ (by show top/v1<LL;have:top/v1≤top:=Bk _ _;unfold LL;omega) ?_
 rintro ⟨a,b⟩ Z _ _ _ ⟨rfl,rfl,rfl,f,u,H⟩;simp only at f u H;have R:a<18446744073709551616:=by
  have D:a*2147483648≤a*v1:=A9 _ I.1;omega
 have e:g<a→(a-1)*v1+(b+v1)=top:=fun d=>by
  obtain ⟨x,rfl⟩:∃x,a=x+1:=⟨a-1,zo⟩;rw [AH,Bs] at f;simp only [Cv];omega
 have l:g<a→4294967296≤b+v1→a-1=g:=fun d i=>by
  have D:=e d;have U:a-1<4294967296:=by
   apply An;intro Y;have:4294967296*v1≤(a-1)*v1:=Ab _ zo;omega
  refine m _ _ D zo ?_;have V:(a-1)*v2≤4294967296*4294967296:=AD zo zo;have W:4294967296*4294967296≤(b+v1)*4294967296:=Ab _ i;omega
 refine zN ?_;by_cases hB:4294967296≤a
 ·repeat refine zW ?_
  refine zN ?_;rw [ze rfl];refine zN ?_;repeat refine zW ?_
  refine zN ?_;repeat refine zW ?_
  refine zN ?_;by_cases i:4294967296≤b+v1
  ·repeat refine zW ?_
   refine zN ?_;rw [ze rfl];refine zN ?_;have j:=l zo i;exact y _ g hgg.symm ⟨rfl,rfl,rfl,rfl,rfl,rfl,rfl,by show jy .u64 _=jy .u64 _;rw [j],eP⟩
  repeat refine zW ?_
  refine zN ?_;refine ZA ?_;exact goOn (a-1,b+v1) (by show a-1<a;omega) ⟨rfl,rfl,rfl,rfl,rfl,rfl,rfl,rfl,rfl,eP⟩ ⟨rfl,rfl,rfl,e zo,by show g≤a-1;omega,by show b+v1<_;omega⟩
 have S:a*v2≤4294967295*4294967295:=AD zo zo;by_cases htest:4294967296*b+w2<a*v2
 ·have d:=s a b f zo;repeat refine zW ?_
  refine zN ?_;first
   |rw [ze rfl]
   |rw [ze (by show kz (decide _)=_;rw [bO (Eu.2 htest)])]
  refine zN ?_;repeat refine zW ?_
  refine zN ?_;repeat refine zW ?_
  refine zN ?_;by_cases i:4294967296≤b+v1
  ·repeat refine zW ?_
   refine zN ?_;rw [ze rfl];refine zN ?_;have j:=l d i;exact y _ g hgg.symm ⟨rfl,rfl,rfl,rfl,rfl,rfl,rfl,by show jy .u64 _=jy .u64 _;rw [j],eP⟩
  repeat refine zW ?_
  refine zN ?_;refine ZA ?_;exact goOn (a-1,b+v1) (by show a-1<a;omega) ⟨rfl,rfl,rfl,rfl,rfl,rfl,rfl,rfl,rfl,eP⟩ ⟨rfl,rfl,rfl,e d,by show g≤a-1;omega,by show b+v1<_;omega⟩
 repeat refine zW ?_
 refine zN ?_;first
  |rw [za rfl]
  |rw [za (by show kz (decide _)=_;rw [aD (fun h=>htest (Eu.1 h))])]
 refine zN ?_;have j:=m a b f u zo;exact y _ g hgg.symm ⟨rfl,rfl,rfl,rfl,rfl,rfl,rfl,by show jy .u64 _=jy .u64 _;rw [j],eP⟩
end
section
theorem znh (n:Nat):gro (3*n+2)=false:=by
 unfold gro;rw [show (3*n+2)%3=2 from zo];rfl
theorem zcp {E:Env}{x:Value}(hu:E.und sT=some (.slice e))(q:E.inf e=some (size,bytes,z))(B:gP (zC z)=size)(p:1≤size∧1≤bytes)(y:argS h size x m new)(d:m*bytes≤1099511627776)(w:gro b=false)(hl:gP new=m*size):
  ∃v' h' n',xf E h n sT (jx (some ⟨b,0,none⟩) 0 0) x=some (.val v' h' n' [])∧n≤n'∧Ext n h h'∧(b<3*n→Sl h' n' size v' new)∧(∀c,c≤n→3*c≤b→yj c v')∧∃a,v'=jx a m m:=by
 obtain ⟨f,hc⟩:=y;have i:Ai (m*bytes) 1099511627776=true:=sn d;have j:AG (gP (zC z)) size=true:=by rw [B];exact B9 _
 have l:Ai 1 size=true:=sn p.1;have o:Ai 1 bytes=true:=sn p.2;by_cases hm:m=0
 ·subst hm;have s:new=[]:=xd.1 (by rw [hl];simp);subst s;refine ⟨jx (some ⟨b,0,none⟩) 0 0,h,n,?_,eT,Ext.refl _ _,fun d=>.nil (.inr ⟨_,_,_,rfl,d⟩),fun c _ g=>g,_,rfl⟩;simp only [xf,hu,q,f,hc,AA,i,j,l,o,A4,show Ai 0 0=true from rfl,u9]
 have u:Ai m 0=false:=by
  cases d:Ai m 0 with
  |false=>rfl
  |true=>have:=Am d;omega
 have v:yn h size 0 (jx (some ⟨b,0,none⟩) 0 0)=some []:=by simp [yn]
 refine ⟨jx (some ⟨3*n+1,0,none⟩) m m,_,n+1,?_,ux _,Ext.upd (b:=3*n+1) (x:=some (.row new e)) zo,fun _=>.at_ zo (zh _ _ _) rfl eT zo (by rw [AQ,Aa zo]),fun c g _=>by show 3*c≤3*n+1;omega,_,rfl⟩;simp only [xf,hu,q,f,hc,AA,i,j,l,o,u,v,A4,eG,w,AN]
set_option maxRecDepth 100000
theorem gD (k:Nat){u v:Nat}(f:Sl h n 1 (jx a1 l1 u) (u32s A))(p:Sl h n 1 (jx a2 l2 v) (u32s C))(q:Norm A)(g:Norm C)(i:C≠[])(hb:gP A<1000000000)(a0:gP C≤1):
  CF (cal (k+3)) 145 [jx a1 l1 u,jx a2 l2 v] h n (DivR n h A C):=by
 refine zu (fn:=Tryz.f145) R4 ?_;have K:=f.lenU;have M:=p.lenU;subst K M;have I:=g.pos i;refine Zv ?_;refine yk _ R5 (gL (k+1) f p q g zo) ?_;rintro _ rfl;by_cases hlt:val A<val C
 ·rw [uj hlt];refine Zp ?_;refine vm (cs:=[]) R5 ?_;repeat refine zR ?_
  obtain ⟨v',h',n',R,g2,S,T,U,a,rfl⟩:=zcp (E:=env) (h:=upd h (3*n+2) (some (.row [] 151))) (n:=n+1) (sT:=47) (b:=3*n+2) rfl rfl rfl zd (tX (f.ext (Ext.upd zo) (ux n))) zo (znh n) (by rw [xv,AO]);refine xD R5 R ?_;refine Za ?_;refine retH [jx none 0 0,jx a (gP A) (gP A)] R3 ⟨rfl,by show n≤n';omega,(Ext.upd zo).trans S (ux n),none,0,[],a,_,A,rfl,.nil (.inl rfl),T zo,Norm.nil,q,?_,?_,trivial,U n (ux n) zo⟩
  ·rw [Cu hlt];rfl
  rw [Ag hlt]
 have Z:0≤cmpZ (val A) (val C):=by
  unfold cmpZ;rw [cC hlt];split<;>decide
 generalize cmpZ (val A) (val C)=cz at Z;refine Zj ?_;by_cases hone:gP C=1
 ·obtain ⟨d,rfl⟩:∃d,C=[d]:=List.length_eq_one_iff.1 hone;have a3:d≠0:=g.last (l:=[]);have a4:d<4294967296:=g.1 d gN;have o:val [d]=d:=by simp [val]
  refine Zr ?_;refine xt (j:=0) (dv:=d) R7 p R2 rfl (fun _=>rfl) R4 fun _=>?_;refine zB _ R5 (nT k (d:=d) zo q.1 zo f) ?_;rintro _ V c _ ⟨rfl,y,H,a,s,L,rfl,B,nL,G,w,_⟩;refine Zk ?_;refine vm (cs:=[jy .u32 ((val A%d:Nat):Int)]) R5 ?_;have F:=rJ (k+1) (l:=[val A%d]) (h:=upd V (3*c+2) (some (.row [jy .u32 ((val A%d:Nat):Int)] 151))) (n:=c+1) gN (Sl.own (O:=[val A%d]) (zh _ _ _) zo rfl eT);refine zB _ R5 F ?_;rintro _ _ _ _ ⟨N,P,rfl,rfl,D⟩;subst N P;refine Za ?_;have W:val A%d<d:=Bo _ zo;refine retH [jx a (gP L) s,jx (some ⟨3*c+2,0,none⟩) (gP (yS [val A%d])) 1] R3 ⟨rfl,by show n≤c+1;omega,H.trans (Ext.upd zo) y,a,s,L,_,_,yS [val A%d],rfl,B.ext (Ext.upd zo) zs,D,nL,Norm.trim (fun x Y=>by simp at Y;omega),by rw [G,o],?_,w,by show 3*n≤3*c+2;omega⟩;rw [vi,o];simp [val]
 have J:gP C≠0:=fun e=>i (xd.1 e);omega
end
end Go.Proofs.YtfajmfoofmienaaGreatDoor
