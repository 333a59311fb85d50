import Derived.KernelRfl
import Derived.Lib.Mul64
import Derived.Lib.TrailingZeros
import Derived.Test.YtepkmadmigkgmaaGreatDoorOptA
open BitVec renaming ofInt→CL,ofNat→Co
open Bool renaming and_eq_true→AA,and_self→AV,not_false→Df,not_true→Dx,or_true→GJ,true_or→GP
open Classical renaming byContradiction→tp
open Go.GL renaming isAgg→CI
open Go.IntKind renaming bits→BJ,signed→Cj,wrap→Ai
open Go.Lib renaming ctz→GM,deBruijn64tab→Fm,half_mul_le→FI
open Go.Proofs.Tryz renaming f206→E2
open Go.Value renaming bool→jx,int→gZ,pointer→mo,slice→gS,string→jy,tuple→EG
open Iff renaming rfl→Dm
open Int renaming lt_trichotomy→DH,natCast_nonneg→Dn,ofNat_lt→Ek,toNat_natCast→A9
open List renaming all_cons→Gk,append_assoc→Ak,append_nil→Am,dropLast_concat_getLast→Dv,drop_eq_getElem_cons→Bw,drop_length→BE,drop_zero→Av,foldl_cons→EP,getElem?_append_right→ux,getElem?_drop→BY,getElem?_eq_getElem→kF,getElem?_eq_some_iff→nN,getElem?_map→As,getElem?_take_of_lt→BA,length→gP,length_append→k0,length_cons→Ao,length_drop→sa,length_eq_zero_iff→vT,length_pos_iff→EV,length_singleton→nP,length_take→sn,mem_append→AY,mem_cons→Ad,mem_of_getElem?→mp,mem_of_mem_take→AB,mem_singleton→qq,nil_append→Au,not_mem_nil→og,replicate→ns,replicate_succ→Dd,set_append_right→A4,set_eq_take_append_cons_drop→Eg,take_append_drop→Bm,take_length→xd,take_of_length_le→pq,take_succ_eq_append_getElem→Ck,take_take→Ej,take_zero→By
open Nat renaming Coprime→C6,add_comm→Bj,add_mul→An,add_mul_mod_self_left→Fc,add_sub_cancel→BM,add_zero→AJ,beq→AD,beq_refl→Cb,ble→Ag,ble_eq_true_of_le→oo,blt→Eh,div_add_mod→AE,div_eq_of_lt→Cz,div_le_self→A3,div_lt_iff_lt_mul→Bk,div_mul_le_self→Gc,div_one→EI,dvd_of_mod_eq_zero→FE,eq_of_beq_eq_true→Ay,eq_of_mul_eq_mul_left→Cs,eq_zero_or_pos→BN,gcd→rp,gcd_comm→Cp,gcd_rec→FU,gcd_sub_self_right→FD,gcd_zero_right→CS,le_div_iff_mul_le→DA,le_of_ble_eq_true→tu,le_refl→AL,le_succ→Al,le_trans→Aa,lt_of_le_of_lt→Aj,lt_of_lt_of_le→Af,lt_or_gt_of_ne→D9,lt_trichotomy→DG,max_eq_left→Ho,max_eq_right→G3,min→FA,min_eq_left→AN,min_eq_right→Fw,mod_eq_of_lt→Ab,mod_lt→Az,mul_add→Ap,mul_assoc→Ah,mul_comm→pe,mul_div_cancel_left→BX,mul_div_mul_right→FO,mul_le_mul→Ar,mul_le_mul_left→s9,mul_le_mul_right→o0,mul_left_comm→Be,mul_mod_mul_left→EH,mul_mod_right→DI,mul_one→AH,mul_pos→CP,mul_right_comm→Do,mul_zero→Bp,one_mul→BR,or_eq_zero_iff→Gu,or_mod_two_pow→Gt,pow_add→Bf,pow_le_pow_right→sN,pow_pos→AW,pow_succ→Ac,pow_zero→BL,sub_self→AO,sub_zero→C5,zero_add→sb,zero_mul→Bg
open Nat.Coprime renaming gcd_mul_left_cancel_right→DT
open Option renaming isNone_none→Cy,isSome_iff_exists→Aq
open Option.some renaming inj→Bx,injEq→Ei
open Prod.mk renaming injEq→BQ
open UInt8 renaming ofNat→Bd
set_option maxHeartbeats 8000000
set_option linter.unusedVariables false
set_option linter.unusedSimpArgs false
namespace Go.GL
open Go
variable {α β:Type}{b i j m n L d n0 nt:Nat}{c vs args:List Value}{e:TypeId}{v:Value}{w:List Nat}{o:Oper}{E:Env}{f:FuncId}
abbrev TF:=Nat→Value
inductive BF where
 |row (c:List Value) (e:TypeId)
 |ro (c:List Value)
 |loop (ready:Bool) (pending:Option Code) (t:TF) (nt:Nat) (ps:List Tmp) (assign body:Code) (d:Nat)
 |dfr
abbrev HF:=Nat→Option BF
def BF.cells:BF→Option (List Value)
 | .row c _=>some c
 | .ro c=>some c
 |_=>none
noncomputable def Blk.view:Blk→BF
 | .row c e=>.row c e
 | .ro c=>.ro c
 | .loop r p t nt ps a b d=>.loop r p (nth t) nt ps a b d
 | .dfr=>.dfr
noncomputable def hv (h:Hp):HF:=fun b=>(h.at b).map Blk.view
def upd {α:Type}(f:Nat→α)(i:Nat)(v:α):Nat→α:=fun j=>if j=i then v else f j
theorem zg (f:Nat→α)(i:Nat)(v:α):upd f i v i=v:=by simp [upd]
theorem zm {f:Nat→α}{v:α}(h:j≠i):upd f i v j=f j:=by simp [upd,h]
theorem uk (f:Nat→α)(i:Nat)(v w:α):upd (upd f i v) i w=upd f i w:=by
 funext j;simp only [upd];split<;>rfl
theorem upd_self {f:Nat→α}{v:α}(h:f i=v):upd f i v=f:=by
 funext j;simp only [upd];split
 ·rename_i e;rw [e,h]
 rfl
theorem fT (t:Tr Value)(i:Nat)(v:Value):nth (Tr.put t i v)=upd (nth t) i v:=by
 funext j;exact Tr.get_put undef rfl t i v j
theorem uJ (h:Hp)(b:Nat)(x:Option Blk):hv (Tr.put h b x)=upd (hv h) b (x.map Blk.view):=by
 funext c;unfold hv upd;rw [show Hp.at (Tr.put h b x) c=if c=b then x else h.at c from Tr.get_put none rfl h b x c];split<;>rfl
theorem znh {h:Hp}{x:Blk}(e:h.at b=some x):hv h b=some x.view:=by simp [hv,e]
theorem uC {h:Hp}{y:BF}(e:hv h b=some y):∃x,h.at b=some x∧x.view=y:=by
 unfold hv at e;simpa using e
theorem zah (x:Blk):x.view.cells=x.cells:=by cases x<;>rfl
theorem zgy {x:Blk}(h:x.view=.row c e):x=.row c e:=by
 cases x<;>simp [Blk.view] at h;obtain ⟨rfl,rfl⟩:=h;rfl
def evF (τ:TF):Operand→Value
 | .tmp i=>τ i
 | .const v=>(match closed v with|true=>v|false=>undef)
 | .global g=>mo (some ⟨3*g,0,none⟩)
 | .func f=>.func (.func f) #[] #[]
theorem eK (t:Tr Value):ev t=evF (nth t):=by funext x;cases x<;>rfl
def tR (h:HF)(a:Addr)(n:Nat):Option (List Value):=
 match h a.block with
 |some x=>(match x.cells with|some c=>(match Ag (a.off+n) (gP c)&&a.spot.isNone with|true=>some ((c.drop a.off).take n)|false=>none)|none=>none)
 |none=>none
theorem bh (h:Hp)(a:Addr)(n:Nat):md h a n=tR (hv h) a n:=by
 unfold md tR;cases e:h.at a.block with
 |none=>simp [hv,e]
 |some x=>rw [znh e];simp only [zah];rfl
def vA (h:HF)(a:Addr)(vs:List Value):Option HF:=
 match h a.block with
 |some (.row c e)=>(match Ag (a.off+gP vs) (gP c)&&(a.spot.isNone&&ones vs) with|true=>some (upd h a.block (some (.row (zu c a.off vs) e)))|false=>none)
 |_=>none
theorem pX {h:Hp}{a:Addr}{g:HF}(d:vA (hv h) a vs=some g):∃h',qN h a vs=some h'∧hv h'=g:=by
 unfold vA at d;split at d
 ·rename_i c e hb;obtain ⟨x,f,l⟩:=uC hb;have:=zgy l;subst this;split at d
  ·rename_i hc;injection d with d
   refine ⟨Tr.put h a.block (some (.row (zu c a.off vs) e)),?_,?_⟩
   ·unfold qN;rw [f];simp only [hc,xZ,Tr.set_eq]
   rw [uJ,←d];rfl
  cases d
 cases d
def yB (E:Env)(t:TypeId)(h:HF)(a:Addr):Option Value:=
 match isAgg E t,E.inf t with
 |some true,some (sz,_,_)=>(tR h a sz).map fun cs=>.agg cs.toArray
 |some false,_=>match tR h a 1 with|some [v]=>some v|_=>none
 |_,_=>none
theorem bg (E:Env)(t:TypeId)(h:Hp)(a:Addr):oN E t h a=yB E t (hv h) a:=by
 unfold oN yB;simp only [bh];rfl
inductive RF where
 |val (v:Value) (h:HF) (n:Nat) (w:List Nat)
 |enter (f:FuncId) (args:List Value)
 |round (l:Nat) (args:List Value)
noncomputable def R.view:R→RF
 | .val v h n w=>.val v (hv h) n w
 | .enter f a=>.enter f a
 | .round l a=>.round l a
def yD (h:HF)(size n:Nat):Value→Option (List Value)
 | gS (some a) _ _=>if n*size=0 then some [] else tR h a (n*size)
 | gS none _ _=>some []
 | jy s=>some ((s.data.toList.take n).map fun b=>gZ .u8 b.toNat)
 |_=>none
theorem sU (h:Hp)(a n:Nat)(v:Value):wB h a n v=yD (hv h) a n v:=by
 unfold wB yD;split<;>simp only [bh]
def jM (h:HF)(b cells:Nat)(e:TypeId):Bool:=match h b with|some (.row c e')=>AD (gP c) cells&&AD e' e|_=>false
theorem zhu (h:Hp)(b cells:Nat)(e:TypeId):zhv h b cells e=jM (hv h) b cells e:=by
 unfold zhv jM;cases hx:h.at b with
 |none=>simp [hv,hx]
 |some x=>rw [znh hx];cases x<;>rfl
def zbf (h:HF)(n:Nat)(e:TypeId)(cs:List Value)(need cells sz:Nat)(base:Option Addr):Option RF:=
 match base with
 |none=>some (.val (gS (some ⟨3*n+1,0,none⟩) need need) (upd h (3*n+1) (some (.row cs e))) (n+1) [])
 |some a=>
  match gro a.block with
  |true=>
   match AD a.off 0&&(a.spot.isNone&&(jM h a.block cells e&&(ones cs&&AD (gP cs) (need*sz)))) with
   |true=>some (.val (gS (some ⟨3*n+1,0,none⟩) need need) (upd (upd h a.block none) (3*n+1) (some (.row cs e))) (n+1) [a.block])
   |false=>none
  |false=>some (.val (gS (some ⟨3*n+1,0,none⟩) need need) (upd h (3*n+1) (some (.row cs e))) (n+1) [])
def To {α β:Type}(view:α→β)(a:Option α)(b:Option β):Prop:=∀y,b=some y→∃x,a=some x∧view x=y
theorem znj (h:Hp)(n:Nat)(e:TypeId)(cs:List Value)(need cells sz:Nat)(f:Option Addr):To R.view (zbg h n e cs need cells sz f) (zbf (hv h) n e cs need cells sz f):=by
 intro y d;unfold zbf at d;unfold zbg;cases f with
 |none=>
  injection d with d
  subst d;exact ⟨_,Tr.set_eq _ _ _ _,by simp [R.view,uJ,Blk.view]⟩
 |some a=>
  simp only at d ⊢;cases hg:gro a.block with
  |true=>
   simp only [hg,zhu] at d ⊢;split at d
   ·rename_i hc;injection d with d
    subst d;simp only [hc,Tr.set_eq];exact ⟨_,rfl,by simp [R.view,uJ,Blk.view]⟩
   cases d
  |false=>
   simp only [hg] at d ⊢;injection d with d
   subst d;exact ⟨_,Tr.set_eq _ _ _ _,by simp [R.view,uJ,Blk.view]⟩
def uB (h:HF)(n size need:Nat)(base:Option Addr)(sLen sCap:Nat)(new:List Value):Option RF:=
 match base,new with
 |_,[]=>some (.val (gS base need sCap) h n [])
 |some a,new=>(match vA h (a.add (sLen*size)) new with|some h=>some (.val (gS base need sCap) h n [a.block])|none=>none)
 |none,_=>none
theorem zbe (h:Hp)(n o need:Nat)(f:Option Addr)(m l:Nat)(new:List Value):To R.view (tq h n o need f m l new) (uB (hv h) n o need f m l new):=by
 intro y d;cases new with
 |nil=>
  cases f<;>(unfold uB at d;unfold tq;injection d with d;subst d;exact ⟨_,rfl,rfl⟩)
 |cons v new=>
  cases f with
  |none=>cases d
  |some a=>
   unfold uB at d;unfold tq;simp only at d ⊢;split at d
   ·rename_i g hg;injection d with d
    subst d;obtain ⟨s,p,q⟩:=pX hg;rw [p];exact ⟨_,rfl,by simp [R.view,q]⟩
   cases d
def yW (E:Env)(h:HF)(n:Nat)(sT:TypeId)(s x:Value):Option RF:=
 match E.und sT with
 |some (.slice e)=>
  match E.inf e,s,lenOf? x with
  |some (size,bytes,z),gS base sLen sCap,some m=>
   match yD h size m x with
   |some new=>
    match Ag ((sLen+m)*bytes) 1099511627776&&(AD (gP (zn z)) size&&Ag 1 size&&Ag 1 bytes) with
    |true=>
     match Ag (sLen+m) sCap with
     |true=>uB h n size (sLen+m) base sLen sCap new
     |false=>
      match yD h size sLen s with
      |some old=>zbf h n e (old++new) (sLen+m) (sCap*size) size base
      |none=>none
    |false=>none
   |none=>none
  |_,_,_=>none
 |_=>none
theorem zgh (E:Env)(h:Hp)(n:Nat)(d:TypeId)(s x:Value):To R.view (qI E h n d s x) (yW E (hv h) n d s x):=by
 intro y a;unfold yW at a;unfold qI;split at a
 ·rename_i e hu;simp only [hu];split at a
  ·rename_i size bytes z base sLen sCap m hi hm;simp only [hi,hm,sU];split at a
   ·rename_i new hnew;simp only [hnew];split at a
    ·rename_i hc;simp only [hc];split at a
     ·rename_i hp;simp only [hp];exact zbe _ _ _ _ _ _ _ _ y a
     rename_i hp;simp only [hp];split at a
     ·rename_i old hold;simp only [hold,xZ];exact znj _ _ _ _ _ _ _ _ y a
     cases a
    cases a
   cases a
  cases a
 cases a
def zbw (E:Env)(h:HF)(n:Nat)(dT:TypeId)(d x:Value):Option RF:=
 match E.und dT with
 |some (.slice e)=>
  match E.inf e,d,lenOf? x with
  |some (size,_,_),gS base dLen _,some m=>
   match yD h size (FA m dLen) x,base with
   |some [],_=>some (.val (goInt (FA m dLen)) h n [])
   |some cs,some a=>(match vA h a cs with|some h=>some (.val (goInt (FA m dLen)) h n [a.block])|none=>none)
   |_,_=>none
  |_,_,_=>none
 |_=>none
theorem zn1 (E:Env)(h:Hp)(n:Nat)(l:TypeId)(d x:Value):To R.view (zbx E h n l d x) (zbw E (hv h) n l d x):=by
 intro y f;unfold zbw at f;unfold zbx;split at f
 ·rename_i e hu;simp only [hu];split at f
  ·rename_i size _ _ base dLen c m hi hm;simp only [hi,hm,sU];cases hcs:yD (hv h) size (FA m dLen) x with
   |none=>rw [hcs] at f;cases base<;>cases f
   |some cs=>
    rw [hcs] at f;cases cs with
    |nil=>
     cases base<;>(simp only at f ⊢;injection f with f;subst f;exact ⟨_,rfl,rfl⟩)
    |cons v cs=>
     cases base with
     |none=>cases f
     |some a=>
      simp only at f ⊢;split at f
      ·rename_i g hg;injection f with f
       subst f;obtain ⟨q,o,p⟩:=pX hg;rw [o];exact ⟨_,rfl,by simp [R.view,p]⟩
      cases f
  cases f
 cases f
def uG (E:Env)(t:TypeId)(a x:Value)(h:HF)(n:Nat):Option RF:=
 match a,E.inf t with
 | mo (some ad),some (sz,_,_)=>
  match AD (gP (zn x)) sz with
  |true=>(match vA h ad (zn x) with|some h=>some (.val undef h n [ad.block])|none=>none)
  |false=>none
 |_,_=>none
theorem zhb (E:Env)(t:TypeId)(a x:Value)(h:Hp)(n:Nat):To R.view (mC E t a x h n) (uG E t a x (hv h) n):=by
 intro y d;unfold uG at d;unfold mC;split at d
 ·rename_i ad sz _ _ hi;simp only [hi];split at d
  ·rename_i hl;simp only [hl];split at d
   ·rename_i g hg;injection d with d
    subst d;obtain ⟨m,f,l⟩:=pX hg;rw [f];exact ⟨_,rfl,by simp [R.view,l]⟩
   cases d
  cases d
 cases d
def zqf (E:Env)(f:Value)(args:List Value)(h:HF)(n:Nat):Option RF:=
 match f with
 | .func (.func g) first cap=>(match E.ext g (first.toList++(args++cap.toList)) with|some v=>some (.val v h n [])|none=>some (.enter g (first.toList++(args++cap.toList))))
 | .func (.yield l) first _=>some (.round l (first.toList++args))
 |_=>none
def appF (E:Env)(ts:List TypeId)(args:List Value)(h:HF)(n:Nat):Option RF:=
 match args,ts with
 |[s,x],[sT,xT]=>(match E.und xT with|some (.int _)=>none|none=>none|_=>yW E h n sT s x)
 |_,_=>none
def cpyF (E:Env)(ts:List TypeId)(args:List Value)(h:HF)(n:Nat):Option RF:=
 match args,ts with
 |[s,x],sT::_=>zbw E h n sT s x
 |_,_=>none
def zf9 (E:Env)(c:Callee)(ts:List TypeId)(ρ:Operand→Value)(args:List Value)(h:HF)(n:Nat):Option RF:=
 match c with
 | .builtin .append=>appF E ts args h n
 | .builtin .copy=>cpyF E ts args h n
 | .value f=>zqf E (ρ f) args h n
 |_=>none
def effF (E:Env)(o:Op)(ρ:Operand→Value)(h:HF)(n:Nat):Option RF:=
 match o with
 | .store t a x=>uG E t (ρ a) (ρ x) h n
 | .call c=>zf9 E c.callee c.argTypes.toList ρ (c.args.toList.map ρ) h n
 |_=>none
theorem zfd (E:Env)(o:Op)(ρ:Operand→Value)(h:Hp)(n:Nat):To R.view (effE E o ρ h n) (effF E o ρ (hv h) n):=by
 intro y a;unfold effF at a;unfold effE;split at a
 ·exact zhb _ _ _ _ _ _ y a
 ·rename_i c;unfold zf9 at a;unfold qH;split at a
  ·rename_i hcal;simp only [hcal];unfold appF at a;unfold appE;split at a
   ·rename_i s x sT xT hs hT;simp only [hs,hT];split at a
    ·cases a
    ·cases a
    rename_i h1 h2;cases hu:E.und xT with
    |none=>exact eN hu h2
    |some d=>
     cases d with
     |int k=>exact eN hu (h1 k)
     |_=>exact zgh _ _ _ _ _ _ y a
   cases a
  ·rename_i hcal;simp only [hcal];unfold cpyF at a;unfold cpyE;split at a
   ·rename_i s x sT r hs hT;simp only [hs,hT];exact zn1 _ _ _ _ _ _ y a
   cases a
  ·rename_i f hcal;simp only [hcal];unfold zqf at a;unfold ze1;cases hf:ρ f with
   |func p first m=>
    rw [hf] at a;cases p with
    |func g=>
     simp only at a ⊢;cases hx:E.ext g (first.toList++(c.args.toList.map ρ++m.toList)) with
     |none=>simp only [hx] at a ⊢;injection a with a;subst a;exact ⟨_,rfl,rfl⟩
     |some v=>simp only [hx] at a ⊢;injection a with a;subst a;exact ⟨_,rfl,rfl⟩
    |yield l=>simp only at a ⊢;injection a with a;subst a;exact ⟨_,rfl,rfl⟩
    |_=>cases a
   |_=>rw [hf] at a;cases a
  cases a
 cases a
def rX (E:Env)(t d:TypeId)(x:Value)(h:HF):Option Value:=
 match x,E.und t,E.und d with
 | gS a len c,some (.slice e),some .string=>
  match E.und e,yD h 1 len (gS a len c) with
  |some (.int .u8),some cs=>(match pi cs with|some l=>some (jy ⟨⟨l⟩⟩)|none=>none)
  |_,_=>none
 |_,_,_=>none
theorem zly (E:Env)(t d:TypeId)(x:Value)(h:Hp):zcr E t d x h=rX E t d x (hv h):=by
 unfold zcr rX;simp only [sU];rfl
def po (E:Env)(o:Op)(ρ:Operand→Value)(h:HF):Option (Value×Nat):=
 match o with
 | .load t a=>(match ρ a with| mo (some ad)=>(match yB E t h ad with|some v=>some (v,ad.block)|none=>none)|_=>none)
 |_=>none
theorem zei (E:Env)(o:Op)(ρ:Operand→Value)(h:Hp):uA E o ρ h=po E o ρ (hv h):=by
 unfold uA po;simp only [bg];rfl
structure SV where
 t:TF
 h:HF
 n:Nat
 w:List Nat
noncomputable def vw (s:St):SV:=⟨nth s.t,hv s.h,s.n,s.w⟩
structure CalF where
 call:FuncId→List Value→HF→Nat→Option (Value×HF×Nat×List Nat)
 yl:Nat→List Value→HF→Nat→Option (Value×HF×Nat×List Nat)
structure CtxF where
 E:Env
 C:CalF
 L:Nat
 round:Option Nat
 n0:Nat
 nt:Nat
noncomputable def rv (r:Value×Hp×Nat×List Nat):Value×HF×Nat×List Nat:=(r.1,hv r.2.1,r.2.2.1,r.2.2.2)
structure CalTo (C:Cal)(F:CalF):Prop where
 call:∀f args h n,To rv (C.call f args h n) (F.call f args (hv h) n)
 yl:∀l args h n,To rv (C.yl l args h n) (F.yl l args (hv h) n)
structure CtxTo (X:Ctx)(Y:CtxF):Prop where
 E:X.E=Y.E
 C:CalTo X.C Y.C
 L:X.L=Y.L
 round:X.round=Y.round
 n0:X.n0=Y.n0
 nt:X.nt=Y.nt
def zv (nt:Nat):Option Tmp→Bool
 |some i=> !Nat.ble nt i
 |none=>true
def putF (τ:TF):Option Tmp→Value→TF
 |some i,v=>upd τ i v
 |none,_=>τ
def xH {β:Type}(X:CtxF)(s:SV)(d:Option Tmp)(v:Value)(h:HF)(n:Nat)(w:List Nat)(k:SV→Option β):Option β:=
 match zv X.nt d with
 |true=>k ⟨putF s.t d v,h,n,addW X.n0 w s.w⟩
 |false=>none
theorem wM {c:α→β}{X:Ctx}{Y:CtxF}(a:CtxTo X Y){s:St}{d:Option Tmp}{h:Hp}{k:St→Option α}{g:SV→Option β}(f:∀s,To c (k s) (g (vw s))):
  To c (done X s d v h n w k) (xH Y (vw s) d v (hv h) n w g):=by
 intro y b;unfold xH at b;unfold done;rw [rJ];split at b
 ·rename_i e;cases d with
  |none=>
   simp only [putK,xm];refine f _ y ?_;rw [←b,a.n0];rfl
  |some i=>
   have e:Ag X.nt i=false:=by rw [a.nt];simpa [zv] using e
   simp only [putK,e,Tr.set_eq,xm];refine f _ y ?_;rw [←b,a.n0];simp [vw,putF,fT]
 cases b
def mkF {β:Type}(X:CtxF)(s:SV)(d:Option Tmp)(m:Mk)(k:SV→Option β):Option β:=
 xH X s d (m.val s.n) (upd s.h (m.name s.n) (some (.row m.c m.e))) (s.n+1) [] k
theorem zm3 {a:α→β}{X:Ctx}{Y:CtxF}(b:CtxTo X Y){s:St}{d:Option Tmp}{m:Mk}{k:St→Option α}{f:SV→Option β}(g:∀s,To a (k s) (f (vw s))):
  To a (mkK X s d m k) (mkF Y (vw s) d m f):=by
 unfold mkK mkF;rw [xZ,Tr.set_eq];have:=wM b (s:=s) (d:=d) (v:=m.val s.n) (h:=Tr.put s.h (m.name s.n) (some (.row m.c m.e))) (n:=s.n+1) (w:=[]) g;rw [uJ] at this;exact this
def mf {β:Type}(X:CtxF)(s:SV)(o:Oper)(k:SV→List Nat→Option β):Option β:=
 match effF X.E o.op (evF s.t) s.h s.n with
 |some (.val v h n w)=>xH X s o.dst v h n w fun s=>k s w
 |some (.enter f args)=>(match X.C.call f args s.h s.n with|some (v,h,n,w)=>xH X s o.dst v h n w fun s=>k s w|none=>none)
 |some (.round l args)=>(match X.C.yl l args s.h s.n with|some (v,h,n,w)=>xH X s o.dst v h n w fun s=>k s w|none=>none)
 |none=>none
theorem zff {j:α→β}{X:Ctx}{Y:CtxF}(a:CtxTo X Y){s:St}{k:St→List Nat→Option α}{B:SV→List Nat→Option β}(u:∀s w,To j (k s w) (B (vw s) w)):
  To j (effK X s o k) (mf Y (vw s) o B):=by
 intro y b;unfold mf at b;unfold effK;split at b
 ·rename_i v h n w he;obtain ⟨r,d,e⟩:=zfd _ _ _ _ _ _ he;rw [a.E,eK,show effE Y.E o.op (evF (nth s.t)) s.h s.n=some r from d];cases r with
  |val F A D p=>
   simp only [R.view,RF.val.injEq] at e;obtain ⟨rfl,rfl,rfl,rfl⟩:=e;exact wM a (fun s=>u s p) y b
  |enter=>cases e
  |round=>cases e
 ·rename_i f args he;obtain ⟨r,d,e⟩:=zfd _ _ _ _ _ _ he;rw [a.E,eK,show effE Y.E o.op (evF (nth s.t)) s.h s.n=some r from d];cases r with
  |enter f' args'=>
   simp only [R.view,RF.enter.injEq] at e;obtain ⟨rfl,rfl⟩:=e;simp only;split at b
   ·rename_i v g n w hc;obtain ⟨⟨F,A,D,p⟩,q,c⟩:=a.C.call _ _ _ _ _ hc;simp only [rv,BQ] at c;obtain ⟨rfl,rfl,rfl,rfl⟩:=c;rw [show X.C.call f' args' s.h s.n=_ from q];exact wM a (fun s=>u s p) y b
   cases b
  |val=>cases e
  |round=>cases e
 ·rename_i l args he;obtain ⟨r,d,e⟩:=zfd _ _ _ _ _ _ he;rw [a.E,eK,show effE Y.E o.op (evF (nth s.t)) s.h s.n=some r from d];cases r with
  |round l' args'=>
   simp only [R.view,RF.round.injEq] at e;obtain ⟨rfl,rfl⟩:=e;simp only;split at b
   ·rename_i v g n w hc;obtain ⟨⟨F,A,D,p⟩,q,c⟩:=a.C.yl _ _ _ _ _ hc;simp only [rv,BQ] at c;obtain ⟨rfl,rfl,rfl,rfl⟩:=c;rw [show X.C.yl l' args' s.h s.n=_ from q];exact wM a (fun s=>u s p) y b
   cases b
  |val=>cases e
  |enter=>cases e
 cases b
def opF {β:Type}(X:CtxF)(s:SV)(o:Oper)(k:SV→Option β):Option β:=
 match cls o.op with
 |0=>(match yy X.E o.op (evF s.t) with|some v=>xH X s o.dst v s.h s.n [] k|none=>none)
 |1=>(match po X.E o.op (evF s.t) s.h with|some (v,_)=>xH X s o.dst v s.h s.n [] k|none=>none)
 |2=>(match mkE X.E o.op (evF s.t) with|some m=>mkF X s o.dst m k|none=>none)
 |3=>mf X s o fun s _=>k s
 |_=>
  match mkE X.E o.op (evF s.t) with
  |some m=>mkF X s o.dst m k
  |none=>
   match o.op with
   | .convert t d x=>(match rX X.E t d (evF s.t x) s.h with|some v=>xH X s o.dst v s.h s.n [] k|none=>(match yy X.E o.op (evF s.t) with|some v=>xH X s o.dst v s.h s.n [] k|none=>none))
   |_=>none
theorem zrp {g:α→β}{X:Ctx}{Y:CtxF}(e:CtxTo X Y){s:St}{k:St→Option α}{l:SV→Option β}(f:∀s,To g (k s) (l (vw s))):
  To g (opK X s o k) (opF Y (vw s) o l):=by
 intro y a;have j:ev s.t=evF (vw s).t:=eK _;unfold opF at a;unfold opK;rw [e.E,j];cases hc:cls o.op with
 |zero=>
  simp only [hc] at a ⊢;split at a
  ·rename_i v hv';rw [hv'];exact wM e f y a
  cases a
 |succ c=>
  cases c with
  |zero=>
   simp only [hc] at a ⊢;split at a
   ·rename_i v b hv';rw [zei,show po Y.E o.op (evF (vw s).t) (hv s.h)=some (v,b) from hv'];exact wM e f y a
   cases a
  |succ c=>
   cases c with
   |zero=>
    simp only [hc] at a ⊢;split at a
    ·rename_i m hm;rw [hm];exact zm3 e f y a
    cases a
   |succ c=>
    cases c with
    |zero=>
     simp only [hc] at a ⊢;exact zff e (fun s _=>f s) y a
    |succ c=>
     simp only [hc] at a ⊢;split at a
     ·rename_i m hm;simp only [hm];exact zm3 e f y a
     rename_i hm;simp only [hm];split at a
     ·rename_i t d x ho;simp only [ho,zly];simp only [ho] at a;cases ht:rX Y.E t d (evF (vw s).t x) (vw s).h with
      |some v=>
       rw [ht] at a;rw [show rX Y.E t d (evF (vw s).t x) (hv s.h)=some v from ht];exact wM e f y a
      |none=>
       rw [ht] at a;rw [show rX Y.E t d (evF (vw s).t x) (hv s.h)=none from ht];simp only at a ⊢;split at a
       ·rename_i v hv';rw [hv'];exact wM e f y a
       cases a
     cases a
def zh (ops:List Oper)(τ:TF)(o:Oper):Bool:=
 match o.guard with
 |none=>true
 |some (j,b)=>
  match ops[j]? with
  |some g=>(match g.dst with|some d=>(match τ d with| jx c=>(match b,c with|true,true=>true|false,false=>true|_,_=>false)|_=>false)|none=>false)
  |none=>false
theorem mr (ops:List Oper)(t:Tr Value)(o:Oper):vf ops t o=zh ops (nth t) o:=rfl
def seqF (X:CtxF)(ops:List Oper):List Oper→SV→Option SV
 |[],s=>some s
 |o::r,s=>(match zh ops s.t o with|true=>opF X s o (seqF X ops r)|false=>xH X s o.dst undef s.h s.n [] (seqF X ops r))
theorem zpf {X:Ctx}{Y:CtxF}(a:CtxTo X Y)(ops:List Oper):∀(l:List Oper) (s:St),To vw (tM X ops l s) (seqF Y ops l (vw s)):=by
 intro l;induction l with
 |nil=>intro s y b;injection b with b;exact ⟨s,rfl,b⟩
 |cons o l ih=>
  intro s;show To vw (Bool.rec (motive:=fun _=>Option St) (done X s o.dst undef s.h s.n [] (tM X ops l)) (opK X s o (tM X ops l)) (vf ops s.t o)) _;unfold seqF;rw [mr];cases hw:zh ops (nth s.t) o with
  |true=>
   rw [show zh ops (vw s).t o=true from hw];exact zrp a ih
  |false=>
   rw [show zh ops (vw s).t o=false from hw];exact wM a ih
structure DF where
 s:SV
 al:List (Nat×Nat)
 ld:List (Nat×Nat)
 ef:List (Nat×HF×List Nat)
noncomputable def efv (l:List (Nat×Hp×List Nat)):List (Nat×HF×List Nat):=l.map fun x=>(x.1,hv x.2.1,x.2.2)
noncomputable def dv (d:Dr):DF:=⟨vw d.s,d.al,d.ld,efv d.ef⟩
def vC (u b:Nat):List (Nat×HF×List Nat)→Bool
 |[]=>true
 |(e,_,W)::r=>(match Eh e u|| !memN b W with|true=>vC u b r|false=>false)
def wn (m:Nat):List (Nat×HF×List Nat)→Nat→HF→Nat×HF
 |[],u,h=>(u,h)
 |(e,g,_)::r,u,h=>(match m.testBit e with|true=>wn m r u h|false=>wn m r e g)
def xq (m:Nat):List (Nat×HF×List Nat)→Bool
 |[]=>true
 |(j,_)::r=>(match m.testBit j with|true=>xq m r|false=>false)
theorem zd6 (u b:Nat)(l:List (Nat×Hp×List Nat)):qS u b l=vC u b (efv l):=by
 induction l with
 |nil=>rfl
 |cons x l ih=>
  obtain ⟨e,g,W⟩:=x;show (match Eh e u|| !memN b W with|true=>qS u b l|false=>false)=(match Eh e u|| !memN b W with|true=>vC u b (efv l)|false=>false);rw [ih]
theorem zji (m:Nat)(l:List (Nat×Hp×List Nat)):gu m l=xq m (efv l):=by
 induction l with
 |nil=>rfl
 |cons x l ih=>
  obtain ⟨e,g,W⟩:=x;show (match m.testBit e with|true=>gu m l|false=>false)=(match m.testBit e with|true=>xq m (efv l)|false=>false);rw [ih]
theorem zdw (m:Nat):∀(l:List (Nat×Hp×List Nat)) (u:Nat) (h:Hp),wn m (efv l) u (hv h)=((vQ m l u h).1,hv (vQ m l u h).2):=by
 intro l;induction l with
 |nil=>intro u h;rfl
 |cons x l ih=>
  intro u h;obtain ⟨e,g,W⟩:=x;show (match m.testBit e with|true=>wn m (efv l) u (hv h)|false=>wn m (efv l) e (hv g))=_;unfold vQ;split
  ·rename_i hb;simp only [hb];exact ih u h
  rename_i hb;simp only [hb];exact ih e g
def rL {β:Type}(X:CtxF)(i m:Nat)(o:Oper)(d:DF)(k:DF→Option β):Option β:=
 match cls o.op with
 |1=>
  match wn m d.ef i d.s.h with
  |(u,h)=>
   match po X.E o.op (evF d.s.t) h with
   |some (v,b)=>(match vC u b d.ef&&qn m b d.al with|true=>xH X d.s o.dst v d.s.h d.s.n [] fun s=>k {d with s,ld:=(i,b)::d.ld}|false=>none)
   |none=>none
 |2=>
  match mkE X.E o.op (evF d.s.t) with
  |some mk=>mkF X d.s o.dst mk fun s=>k {d with s,al:=(i,mk.name d.s.n)::d.al}
  |none=>none
 |3=>
  match xq m d.ef&&xJ m d.al with
  |true=>mf X d.s o fun s W=>(match ya m W d.ld&&Ag d.s.n s.n with|true=>k {d with s,ef:=(i,d.s.h,W)::d.ef}|false=>none)
  |false=>none
 |_=>(match yy X.E o.op (evF d.s.t) with|some v=>xH X d.s o.dst v d.s.h d.s.n [] fun s=>k {d with s}|none=>none)
theorem zns {f:α→β}{X:Ctx}{Y:CtxF}(c:CtxTo X Y){d:Dr}{k:Dr→Option α}{p:DF→Option β}(g:∀d,To f (k d) (p (dv d))):
  To f (zfi X i m o d k) (rL Y i m o (dv d) p):=by
 intro y a;have l:ev d.s.t=evF (dv d).s.t:=eK _;unfold rL at a;unfold zfi;rw [c.E,l];split at a
 ·rename_i hc;simp only [hc];rw [show wn m (dv d).ef i (dv d).s.h=_ from zdw m d.ef i d.s.h] at a;generalize vQ m d.ef i d.s.h=uh at a;obtain ⟨u,h⟩:=uh;simp only at a ⊢;split at a
  ·rename_i v b hl;rw [zei,hl];simp only;split at a
   ·rename_i hok;rw [zd6,show (vC u b (efv d.ef)&&qn m b d.al)=true from hok];exact wM c (fun s=>g {d with s,ld:=(i,b)::d.ld}) y a
   cases a
  cases a
 ·rename_i hc;simp only [hc];split at a
  ·rename_i mk hm;rw [hm];exact zm3 c (fun s=>g {d with s,al:=(i,mk.name d.s.n)::d.al}) y a
  cases a
 ·rename_i hc;simp only [hc];split at a
  ·rename_i hok;rw [zji,show (xq m (efv d.ef)&&xJ m d.al)=true from hok];refine zff c (fun s W=>?_) y a;intro z j;split at j
   ·rename_i hok2;rw [show (ya m W d.ld&&Ag d.s.n s.n)=true from hok2];exact g {d with s,ef:=(i,d.s.h,W)::d.ef} z j
   cases j
  cases a
 rename_i h1 h2 h3;have:∀(A B C D:Option α),(match cls o.op with|1=>A|2=>B|3=>C|_=>D)=D:=fun A B C D=>by
  split
  ·exact eN (by assumption) h1
  ·exact eN (by assumption) h2
  ·exact eN (by assumption) h3
  rfl
 have e:=this;split
 ·exact eN (by assumption) h1
 ·exact eN (by assumption) h2
 ·exact eN (by assumption) h3
 split at a
 ·rename_i v hv';rw [hv'];exact wM c (fun s=>g {d with s}) y a
 cases a
def z0 (X:CtxF)(ops:List Oper):List Oper→List Nat→Nat→DF→Option SV
 |[],_,_,d=>some d.s
 |o::r,m::ms,i,d=>
  match zh ops d.s.t o with
  |true=>rL X i m o d fun d=>z0 X ops r ms (i+1) d
  |false=>xH X d.s o.dst undef d.s.h d.s.n [] fun s=>z0 X ops r ms (i+1) {d with s}
 |_,_,_,_=>none
theorem zbm {X:Ctx}{Y:CtxF}(b:CtxTo X Y)(ops:List Oper):∀(l:List Oper) (ms:List Nat) (i:Nat) (d:Dr),To vw (wp X ops l ms i d) (z0 Y ops l ms i (dv d)):=by
 intro l;induction l with
 |nil=>intro ms i d y a;unfold z0 at a;injection a with a;exact ⟨d.s,by unfold wp;rfl,a⟩
 |cons o l ih=>
  intro ms i d;cases ms with
  |nil=>intro y a;cases a
  |cons m ms=>
   intro y a;unfold z0 at a;unfold wp;rw [mr];split at a
   ·rename_i hw;rw [show zh ops (nth d.s.t) o=true from hw];exact zns b (fun d=>ih ms (i+1) d) y a
   rename_i hw;rw [show zh ops (nth d.s.t) o=false from hw];exact wM b (fun s=>ih ms (i+1) {d with s}) y a
def fY (f:SV→Option (Ex×SV)):Nat→SV→Option (Ex×SV)
 |0,_=>none
 |n+1,s=>match f s with|some (.normal,s')=>fY f n s'|r=>r
noncomputable def ev2 (r:Ex×St):Ex×SV:=(r.1,vw r.2)
theorem zm7 {f:St→Option (Ex×St)}{g:SV→Option (Ex×SV)}(h:∀s,To ev2 (f s) (g (vw s))):∀(n:Nat) (s:St),To ev2 (fZ f n s) (fY g n (vw s)):=by
 intro n;induction n with
 |zero=>intro s y a;cases a
 |succ n ih=>
  intro s y a;unfold fY at a;show ∃x,(match f s with|some (.normal,s')=>fZ f n s'|r=>r)=some x∧ev2 x=y;split at a
  ·rename_i s' hs;obtain ⟨⟨e,d⟩,c,b⟩:=h s _ hs;simp only [ev2,BQ] at b;obtain ⟨rfl,rfl⟩:=b;rw [c];exact ih d y a
  rename_i hne;obtain ⟨⟨e,d⟩,c,b⟩:=h s _ a;subst b;refine ⟨(e,d),?_,rfl⟩;rw [c];cases e with
  |normal=>exact eN a (hne _)
  |exit=>rfl
  |ret=>rfl
def cK (X:CtxF)(g:Value)(ps:List Tmp)(assign body:Code)(s:SV):Option (Ex×SV):=
 match g,X.round with
 | .func (.func gf) first cap,none=>
  match X.C.call gf (first.toList++([.func (.yield (3*(s.n+1)+2)) #[] #[]]++cap.toList)) (upd (upd s.h (3*s.n+2) (some .dfr)) (3*(s.n+1)+2) (some (.loop true none s.t X.nt ps assign body (3*s.n+2)))) (s.n+1+1) with
  |some (_,h3,n3,w3)=>
   match h3 (3*(s.n+1)+2),h3 (3*s.n+2) with
   |some (.loop r p _ _ _ _ _ _),some .dfr=>
    match zib r p with
    |some x=>some (x,⟨s.t,upd (upd h3 (3*(s.n+1)+2) none) (3*s.n+2) none,n3,addW X.n0 w3 s.w⟩)
    |none=>none
   |_,_=>none
  |none=>none
 |_,_=>none
theorem zhy {X:Ctx}{Y:CtxF}(d:CtxTo X Y)(g:Value)(f:List Tmp)(a c:Code)(s:St):To ev2 (qQ X g f a c s) (cK Y g f a c (vw s)):=by
 intro y b;unfold cK at b;unfold qQ;split at b
 ·rename_i gf first cap hr
  rw [d.round,hr];simp only [xm,Tr.set_eq,d.nt,d.n0];split at b
  ·rename_i v3 g3 n3 w3 hc;have e:upd (upd (vw s).h (3*(vw s).n+2) (some BF.dfr)) (3*((vw s).n+1)+2) (some (.loop true none (vw s).t Y.nt f a c (3*(vw s).n+2)))=
     hv (Tr.put (Tr.put s.h (3*s.n+2) (some .dfr)) (3*(s.n+1)+2) (some (.loop true none s.t Y.nt f a c (3*s.n+2)))):=by
    rw [uJ,uJ];rfl
   rw [e] at hc;obtain ⟨⟨G,l,F,H⟩,q,u⟩:=d.C.call _ _ _ _ _ hc;simp only [rv,BQ] at u;obtain ⟨rfl,rfl,rfl,rfl⟩:=u;have q:X.C.call gf (first.toList++([Value.func (Fn.yield (3*(s.n+1)+2)) #[] #[]]++cap.toList)) (Tr.put (Tr.put s.h (3*s.n+2) (some .dfr)) (3*(s.n+1)+2) (some (.loop true none s.t Y.nt f a c (3*s.n+2)))) (s.n+1+1)=some (G,l,F,H):=q;rw [q];simp only;split at b
   ·rename_i r p t' nt' ps' as' bd' d' hl hd;obtain ⟨J,B,j⟩:=uC hl;obtain ⟨I,A,D⟩:=uC hd;cases J<;>simp [Blk.view] at j;cases I<;>simp [Blk.view] at D;obtain ⟨rfl,rfl,_⟩:=j;rw [show Hp.at l (3*(s.n+1)+2)=_ from B,show Hp.at l (3*s.n+2)=_ from A];simp only;split at b
    ·rename_i x hj;injection b with b
     subst b;rw [hj];refine ⟨_,rfl,?_⟩;simp only [ev2,vw,uJ];rfl
    cases b
   cases b
  cases b
 cases b
def xk (X:CtxF):Code→SV→Option (Ex×SV)
 | .skip,s=>some (.normal,s)
 | .region _ ops d,s=>(match d with
   |false=>(match seqF X ops.toList ops.toList s with|some s=>some (.normal,s)|none=>none)
   |true=>(match z0 X ops.toList ops.toList (xA ops.toList []) 0 ⟨s,[],[],[]⟩ with|some s=>some (.normal,s)|none=>none))
 | .seq a b,s=>(match xk X a s with|some (.normal,s')=>xk X b s'|r=>r)
 | .cond c a b,s=>(match evF s.t c with| jx true=>xk X a s| jx false=>xk X b s|_=>none)
 | .block id b,s=>(match xk X b s with|some (.exit j,s')=>(match AD j id with|true=>some (.normal,s')|false=>some (.exit j,s'))|r=>r)
 | .loop b,s=>fY (xk X b) X.L s
 | .rangeFunc f ps assign body,s=>cK X (evF s.t f) ps.toList assign body s
 | .exit id,s=>some (.exit id,s)
 | .scope b,s=>xk X b s
 | .label _,s=>some (.normal,s)
 | .goto _,_=>none
 | .ret,s=>some (.ret,s)
 | .refuse _,_=>none
theorem eI {X:Ctx}{Y:CtxF}(A:CtxTo X Y):∀(c:Code) (s:St),To ev2 (vG X c s) (xk Y c (vw s)):=by
 intro c;induction c with
 |skip=>intro s y g;injection g with g;exact ⟨_,rfl,g⟩
 |label l=>intro s y g;injection g with g;exact ⟨_,rfl,g⟩
 |exit id=>intro s y g;injection g with g;exact ⟨_,rfl,g⟩
 |ret=>intro s y g;injection g with g;exact ⟨_,rfl,g⟩
 |goto l=>intro s y g;cases g
 |refuse l=>intro s y g;cases g
 |region id ops d=>
  intro s y g;cases d with
  |false=>
   unfold xk at g;simp only at g;split at g
   ·rename_i u hs;injection g with g
    subst g;obtain ⟨B,p,rfl⟩:=zpf A _ _ s _ hs;refine ⟨(.normal,B),?_,rfl⟩;show (match tM X ops.toList ops.toList s with|some s=>some (Ex.normal,s)|none=>none)=_;rw [p]
   cases g
  |true=>
   unfold xk at g;simp only at g;split at g
   ·rename_i u hs;injection g with g
    subst g;obtain ⟨B,p,rfl⟩:=zbm A _ _ _ 0 ⟨s,[],[],[]⟩ _ hs;refine ⟨(.normal,B),?_,rfl⟩;show (match wp X ops.toList ops.toList (xA ops.toList []) 0 ⟨s,[],[],[]⟩ with|some s=>some (Ex.normal,s)|none=>none)=_;rw [p]
   cases g
 |seq a b iha ihb=>
  intro s y g;unfold xk at g;show ∃x,(match vG X a s with|some (.normal,s')=>vG X b s'|r=>r)=some x∧ev2 x=y;split at g
  ·rename_i s' hs;obtain ⟨⟨e,u⟩,p,q⟩:=iha s _ hs;simp only [ev2,BQ] at q;obtain ⟨rfl,rfl⟩:=q;rw [p];exact ihb u y g
  rename_i hne;obtain ⟨⟨e,u⟩,p,q⟩:=iha s _ g;subst q;refine ⟨(e,u),?_,rfl⟩;rw [p];cases e with
  |normal=>exact eN g (hne _)
  |exit=>rfl
  |ret=>rfl
 |cond c a b iha ihb=>
  intro s y g;unfold xk at g;show ∃x,(match ev s.t c with| jx true=>vG X a s| jx false=>vG X b s|_=>none)=some x∧ev2 x=y;rw [eK];split at g
  ·rename_i hv';rw [show evF (nth s.t) c=_ from hv'];exact iha s y g
  ·rename_i hv';rw [show evF (nth s.t) c=_ from hv'];exact ihb s y g
  cases g
 |block id b ihb=>
  intro s y g;unfold xk at g;show ∃x,(match vG X b s with|some (.exit j,s')=>(match AD j id with|true=>some (Ex.normal,s')|false=>some (.exit j,s'))|r=>r)=some x∧ev2 x=y;split at g
  ·rename_i j s' hs;obtain ⟨⟨e,u⟩,p,q⟩:=ihb s _ hs;simp only [ev2,BQ] at q;obtain ⟨rfl,rfl⟩:=q;rw [p];simp only;split at g
   ·rename_i hj;injection g with g
    subst g;first|(rw [hj];exact ⟨_,rfl,rfl⟩)|exact ⟨_,rfl,rfl⟩
   rename_i hj;injection g with g
   subst g;first|(rw [hj];exact ⟨_,rfl,rfl⟩)|exact ⟨_,rfl,rfl⟩
  rename_i hne;obtain ⟨⟨e,u⟩,p,q⟩:=ihb s _ g;subst q;refine ⟨(e,u),?_,rfl⟩;rw [p];cases e with
  |normal=>rfl
  |exit j=>exact eN g (hne _ _)
  |ret=>rfl
 |loop b ihb=>
  intro s;show To ev2 (fZ (vG X b) X.L s) (fY (xk Y b) Y.L (vw s));rw [A.L];exact zm7 ihb _ _
 |scope b ihb=>intro s;exact ihb s
 |rangeFunc f ps asg bd _ _=>
  intro s;show To ev2 (qQ X (ev s.t f) ps.toList asg bd s) (cK Y (evF (nth s.t) f) ps.toList asg bd (vw s));rw [eK];exact zhy A _ _ _ _ _
def resF (E:Env)(s:SV):List ResultVar→Option (List Value)
 |[]=>some []
 | .tmp t::r=>(match resF E s r with|some l=>some (s.t t::l)|none=>none)
 | .cell a t::r=>
  match s.t a with
  | mo (some ad)=>(match yB E t s.h ad,resF E s r with|some v,some l=>some (v::l)|_,_=>none)
  |_=>none
theorem zpi (E:Env)(s:St):∀l,resE E s l=resF E (vw s) l:=by
 intro l;induction l with
 |nil=>rfl
 |cons r l ih=>
  cases r with
  |tmp t=>
   show (match resE E s l with|some l=>some (nth s.t t::l)|none=>none)=(match resF E (vw s) l with|some l=>some ((vw s).t t::l)|none=>none);rw [ih];rfl
  |cell a t=>
   show (match nth s.t a with| mo (some ad)=>(match oN E t s.h ad,resE E s l with|some v,some l=>some (v::l)|_,_=>none)|_=>none)=(match (vw s).t a with| mo (some ad)=>(match yB E t (vw s).h ad,resF E (vw s) l with|some v,some l=>some (v::l)|_,_=>none)|_=>none);simp only [ih,bg];rfl
def mj (args:List Value):TF:=fun j=>args.getD j undef
theorem zgg (args:List Value)(d:Nat){t:Tr Value}(h:∀j,nth t j=if 0≤j∧j<0+gP args then args.getD (j-0) undef else nth (Tr.mk undef d) j):nth t=mj args:=by
 funext j;rw [h];unfold mj;split
 ·rfl
 rename_i hj;rw [show nth (Tr.mk undef d) j=undef from Tr.get_mk undef d j];simp [List.getD,List.getElem?_eq_none (show gP args≤j by omega)]
theorem zaw:∀(args:List Value) (i:Nat) (t:Tr Value),∃t',(∀k:Tr Value→Option β,oq args i t k=k t')∧∀j,nth t' j=if i≤j∧j<i+gP args then args.getD (j-i) undef else nth t j:=by
 intro args;induction args with
 |nil=>intro i t;exact ⟨t,fun k=>rfl,fun j=>by rw [eP gN]⟩
 |cons v args ih=>
  intro i t;obtain ⟨c,b,a⟩:=ih (i+1) (Tr.put t i v);refine ⟨c,fun k=>?_,fun j=>?_⟩
  ·show Tr.set t i v (fun t=>oq args (i+1) t k)=_;rw [Tr.set_eq,b]
  rw [a,fT];simp only [Ao,upd];by_cases hj:j=i
  ·subst hj;rw [eP zo,eS rfl,eS zo];simp
  by_cases hr:i+1≤j∧j<i+1+gP args
  ·rw [eS hr,eS zo];rw [show j-i=(j-(i+1))+1 from zo];simp
  rw [eP hr,eP hj,eP zo]
def qm (vs:List Value):Value:=match vs with|[v]=>v|vs=>.tuple ⟨vs⟩
def endF (E:Env)(f:FuncId)(h:HF)(n:Nat)(s:SV)(vs:List Value):Value×HF×Nat×List Nat:=
 match E.pure f&&uQ vs,s.w with
 |true,[]=>(qm vs,h,n,[])
 |_,w=>(qm vs,s.h,s.n,w)
def fnF (E:Env)(C:CalF)(L:Nat)(f:FuncId)(args:List Value)(h:HF)(n:Nat):Option (Value×HF×Nat×List Nat):=
 match E.fn f with
 |some fn=>
  match fn.body with
  |some body=>
   match Ag (gP args) fn.ntmps with
   |true=>
    match xk {E,C,L,round:=none,n0:=n,nt:=fn.ntmps} body ⟨mj args,h,n,[]⟩ with
    |some (.exit _,_)=>none
    |some (_,s)=>
     match resF E s fn.results.toList with
     |some vs=>some (endF E f h n s vs)
     |none=>none
    |none=>none
   |false=>none
  |none=>none
 |none=>none
theorem zrx {C:Cal}{F:CalF}(u:CalTo C F)(f:FuncId)(args:List Value)(h:Hp)(n:Nat):To rv (fnE E C L f args h n) (fnF E F L f args (hv h) n):=by
 intro y a;unfold fnF at a;unfold fnE;split at a
 ·rename_i fn hfn;simp only [hfn];split at a
  ·rename_i body hb;simp only [hb];split at a
   ·rename_i hle;simp only [hle];obtain ⟨i,B,A⟩:=zaw (β:=Value×Hp×Nat×List Nat) args 0 (Tr.mk undef E.dT);rw [B];have l:nth i=mj args:=zgg args _ A;have o:=eI (X:={E,C,L,round:=none,n0:=n,nt:=fn.ntmps}) (Y:={E,C:=F,L,round:=none,n0:=n,nt:=fn.ntmps}) ⟨rfl,u,rfl,rfl,rfl,rfl⟩ body {t:=i,h,n,w:=[]};have m:vw {t:=i,h,n,w:=[]}=⟨mj args,hv h,n,[]⟩:=by simp [vw,l]
    rw [m] at o;cases he:xk {E,C:=F,L,round:=none,n0:=n,nt:=fn.ntmps} body ⟨mj args,hv h,n,[]⟩ with
    |none=>rw [he] at a;cases a
    |some r=>
     obtain ⟨⟨e,s⟩,p,q⟩:=o r he;subst q;rw [he] at a;rw [p];have g:(match resF E (vw s) fn.results.toList with|some c=>some (endF E f (hv h) n (vw s) c)|none=>none)=some y→
       ∃x,(match resE E s fn.results.toList with
        |some c=>oU c fun c=>(match E.pure f&&uQ c,s.w with
         |true,[]=>some ((match c with|[v]=>v|c=>EG ⟨c⟩),h,n,[])
         |_,w=>some ((match c with|[v]=>v|c=>EG ⟨c⟩),s.h,s.n,w))
        |none=>none)=some x∧rv x=y:=fun a=>by
      rw [zpi];cases hr:resF E (vw s) fn.results.toList with
      |none=>rw [hr] at a;cases a
      |some c=>
       rw [hr] at a;injection a with a
       subst a;simp only [mT];unfold endF;cases hp:E.pure f&&uQ c with
       |true=>
        cases hw:s.w with
        |nil=>
         rw [show (vw s).w=[] from hw];exact ⟨_,rfl,rfl⟩
        |cons b w=>
         rw [show (vw s).w=b::w from hw];exact ⟨_,rfl,rfl⟩
       |false=>
        refine ⟨_,rfl,?_⟩;rfl
     cases e with
     |exit j=>cases a
     |normal=>exact g a
     |ret=>exact g a
   cases a
  cases a
 cases a
def mK (nt:Nat):List Tmp→List Value→TF→Option TF
 |p::ps,v::vs,t=>(match Ag nt p with|true=>none|false=>mK nt ps vs (upd t p v))
 |_,_,t=>some t
theorem zhq (nt:Nat):∀(a:List Tmp) (vs:List Value) (t:Tr Value) (τ:TF),mK nt a vs (nth t)=some τ→∃b,(∀{β:Type} (k:Tr Value→Option β),vv.setPs nt a vs t k=k b)∧nth b=τ:=by
 intro a;induction a with
 |nil=>intro vs t τ h;unfold mK at h;injection h with h;exact ⟨t,fun k=>by unfold vv.setPs;rfl,h⟩
 |cons p a ih=>
  intro vs t τ h;cases vs with
  |nil=>unfold mK at h;injection h with h;exact ⟨t,fun k=>by unfold vv.setPs;rfl,h⟩
  |cons v vs=>
   unfold mK at h;split at h
   ·cases h
   rename_i hp;obtain ⟨b,c,e⟩:=ih vs (Tr.put t p v) τ (by rw [fT];exact h);refine ⟨b,fun k=>?_,e⟩;unfold vv.setPs;simp only [hp,Tr.set_eq];exact c k
def zds (E:Env)(C:CalF)(L:Nat)(l:Nat)(args:List Value)(h:HF)(n:Nat):Option (Value×HF×Nat×List Nat):=
 match h l with
 |some (.loop true none t0 nt0 ps0 assign0 body0 _)=>
  match AD (gP args) (gP ps0),mK nt0 ps0 args t0 with
  |true,some t1=>
   match xk {E,C,L,round:=some l,n0:=n,nt:=nt0} assign0 ⟨t1,h,n,[]⟩ with
   |some (.normal,s1)=>
    match s1.h l with
    |some (.loop true none t nt ps assign body d)=>
     match xk {E,C,L,round:=some l,n0:=n,nt:=nt0} body0 {s1 with h:=upd s1.h l (some (.loop false none t nt ps assign body d)),w:=l::s1.w} with
     |some (x,s2)=>
      match s2.h l with
      |some (.loop _ _ t nt ps assign body d)=>
       match x with
       | .normal=>some (jx true,upd s2.h l (some (.loop true none t nt ps assign body d)),s2.n,l::s2.w)
       | .ret=>some (jx false,upd s2.h l (some (.loop false (some .ret) t nt ps assign body d)),s2.n,l::s2.w)
       | .exit id=>some (jx false,upd s2.h l (some (.loop false (some (.exit id)) t nt ps assign body d)),s2.n,l::s2.w)
      |_=>none
     |none=>none
    |_=>none
   |_=>none
  |_,_=>none
 |_=>none
theorem pR {x:Blk}{r:Bool}{p:Option Code}{τ:TF}{c:List Tmp}{a b:Code}(h:x.view=.loop r p τ nt c a b d):∃t,x=.loop r p t nt c a b d∧nth t=τ:=by
 cases x<;>simp [Blk.view] at h;obtain ⟨rfl,rfl,rfl,rfl,rfl,rfl,rfl,rfl⟩:=h;exact ⟨_,rfl,rfl⟩
theorem zhw {C:Cal}{F:CalF}(H:CalTo C F)(l:Nat)(args:List Value)(h:Hp)(n:Nat):To rv (vv E C L l args h n) (zds E F L l args (hv h) n):=by
 intro y a;unfold zds at a;unfold vv;split at a
 ·rename_i τ0 nt0 ps0 assign0 body0 d0 hl;obtain ⟨x,I,s⟩:=uC hl;obtain ⟨J,rfl,rfl⟩:=pR s;rw [I];simp only;split at a
  ·rename_i τ1 hb hs;simp only [hb];obtain ⟨K,B,rfl⟩:=zhq nt0 ps0 args J _ hs;rw [B];have m:CtxTo {E,C,L,round:=some l,n0:=n,nt:=nt0} {E,C:=F,L,round:=some l,n0:=n,nt:=nt0}:=⟨rfl,H,rfl,rfl,rfl,rfl⟩;split at a
   ·rename_i b he1;obtain ⟨⟨e,b⟩,D,i⟩:=eI m assign0 {t:=K,h,n,w:=[]} _ he1;simp only [ev2,BQ] at i;obtain ⟨rfl,rfl⟩:=i;rw [D];simp only;split at a
    ·rename_i τ nt ps assign body d hl1;obtain ⟨N,p,c⟩:=uC hl1;obtain ⟨t,rfl,rfl⟩:=pR c;rw [show Hp.at b.h l=_ from p];simp only [Tr.set_eq];split at a
     ·rename_i xe u he2;have o:({vw b with h:=upd (vw b).h l (some (.loop false none (nth t) nt ps assign body d)),w:=l::(vw b).w}:SV)=vw {b with h:=Tr.put b.h l (some (.loop false none t nt ps assign body d)),w:=l::b.w}:=by
       simp only [vw,uJ];rfl
      rw [o] at he2;obtain ⟨⟨A,u⟩,G,j⟩:=eI m body0 _ _ he2;simp only [ev2,BQ] at j;obtain ⟨rfl,rfl⟩:=j;rw [G];simp only;split at a
      ·rename_i r' p' τ' nt' ps' as' bd' d' hl2;obtain ⟨O,q,g⟩:=uC hl2;obtain ⟨M,rfl,rfl⟩:=pR g;rw [show Hp.at u.h l=_ from q];simp only;cases A with
       |normal=>
        injection a with a
        subst a;exact ⟨_,rfl,by simp only [rv,uJ];rfl⟩
       |ret=>
        injection a with a
        subst a;exact ⟨_,rfl,by simp only [rv,uJ];rfl⟩
       |exit id=>
        injection a with a
        subst a;exact ⟨_,rfl,by simp only [rv,uJ];rfl⟩
      cases a
     cases a
    cases a
   cases a
  cases a
 cases a
noncomputable def orcF (orc:FuncId→List Value→Option Value)(G:HF→Prop)(f:FuncId)(args:List Value)(h:HF):Option Value:=
 open Classical in if G h then orc f args else none
noncomputable def calO (E:Env)(L:Nat)(orc:FuncId→List Value→Option Value)(G:HF→Prop):Nat→Cal
 |0=>⟨fun _ _ _ _=>none,fun _ _ _ _=>none⟩
 |k+1=>⟨fun f a h n=>(match orcF orc G f a (hv h) with|some v=>some (v,h,n,[])|none=>fnE E (calO E L orc G k) L f a h n),fun l a h n=>vv E (calO E L orc G k) L l a h n⟩
noncomputable def calF (E:Env)(L:Nat)(orc:FuncId→List Value→Option Value)(G:HF→Prop):Nat→CalF
 |0=>⟨fun _ _ _ _=>none,fun _ _ _ _=>none⟩
 |k+1=>⟨fun f a h n=>(match orcF orc G f a h with|some v=>some (v,h,n,[])|none=>fnF E (calF E L orc G k) L f a h n),fun l a h n=>zds E (calF E L orc G k) L l a h n⟩
theorem zqu (E:Env)(L:Nat)(c:FuncId→List Value→Option Value)(G:HF→Prop):∀k,CalTo (calO E L c G k) (calF E L c G k):=by
 intro k;induction k with
 |zero=>exact ⟨fun f a h n y b=>(by cases b),fun l a h n y b=>(by cases b)⟩
 |succ k ih=>
  refine ⟨fun f a h n y b=>?_,fun l a h n=>zhw ih l a h n⟩;have b:(match orcF c G f a (hv h) with|some v=>some (v,hv h,n,[])|none=>fnF E (calF E L c G k) L f a (hv h) n)=some y:=b;show ∃x,(match orcF c G f a (hv h) with|some v=>some (v,h,n,[])|none=>fnE E (calO E L c G k) L f a h n)=some x∧rv x=y;cases ho:orcF c G f a (hv h) with
  |some v=>rw [ho] at b;injection b with b;subst b;exact ⟨_,rfl,rfl⟩
  |none=>rw [ho] at b;exact zrx ih f a h n y b
def Orc (X:Rel)(G:HF→Prop)(f:FuncId)(args:List Value)(v:Value):Prop:=
 ∀(k:Nat) (ρ:Ren) (h:Hp) (n:Nat) (w:World),G (hv h)→Sim X ρ h w→HNb (3*n) h→
  (callFunc f (args.map (conc ρ)).toArray).run X.P w=.ok (.enter f (args.map (conc ρ)).toArray) w∧
  CallsIn Fence.wide k X.P f (args.map (conc ρ)).toArray w fun e w'=>∃ρ',e=.returned (conc ρ' v)∧Post X ρ n h w [] ρ' v h n w'
theorem zb4 {X:Rel}{reg:Array Oper→Bool}(q:EnvOk2 X.E X.P)(L:Nat)(m:∀c,X.ok c↔xf reg c=true)(s:∀f fn c,X.E.fn f=some fn→fn.body=some c→xf reg c=true)
  (p:∀(C:Ctx) ρ0 h0 w0,C.E=X.E→CalOk X C.C→ui X C ρ0 h0 w0 reg){b:FuncId→List Value→Option Value}{G:HF→Prop}(y:∀f args v,b f args=some v→Orc X G f args v):∀d,CalOk X (calO X.E L b G d):=by
 intro d;induction d with
 |zero=>exact ⟨fun f args h n v e j W a=>(by cases a),fun l args h n v e j W a=>(by cases a)⟩
 |succ d ih=>
  refine ⟨fun f args h n v e j W a k ρ w i g o=>?_,fun l args h n v e j W a k ρ w i g o=>oB q ih m p a k ρ w i g o⟩;have a:(match orcF b G f args (hv h) with|some v=>some (v,h,n,[])|none=>fnE X.E (calO X.E L b G d) L f args h n)=some (v,e,j,W):=a;cases ho:orcF b G f args (hv h) with
  |some u=>
   rw [ho] at a;simp only [Ei,BQ] at a;obtain ⟨rfl,rfl,rfl,rfl⟩:=a;unfold orcF at ho;split at ho
   ·exact y f args u ho k ρ h n w (by assumption) i g
   cases ho
  |none=>
   rw [ho] at a;exact bE q ih m s p a k ρ w i g o
theorem za3 {X:Rel}{G:HF→Prop}{C:Cal}(H:CalOk X C){h0 hx:Hp}{N:Nat}(p:C.call f args h0 n0=some (v,hx,N,[]))(I:∀x∈args,closed x=true)(g:closed v=true)
  (i:∀h:Hp,G (hv h)→∀b x,h0.at b=some x→h.at b=some x)(y:HNb (3*n0) h0):Orc X G f args v:=by
 intro k ρ h n w o q M;have A:Sim X ρ h0 w:=⟨fun b x l=>q.blk b x (i h o b x l),fun b s l u m=>by
  obtain ⟨x,hx⟩:=Aq.1 l;obtain ⟨O,B⟩:=Aq.1 u;exact q.inj b s (by rw [i h o b x hx];rfl) (by rw [i h o s O B];rfl) m⟩
 obtain ⟨D,F⟩:=H.call _ _ _ _ _ _ _ _ p k ρ w A y (fun x hx=>Nb.closed (I x hx));refine ⟨D,F.mono fun e P ⟨R,m,a⟩=>⟨ρ,by rw [m,yA g,yA g],?_⟩⟩;exact (Post.refl q M (Nb.closed g)).grow (fun j K=>a.fr j K fun c J=>by cases J) a.size a.os a.tape a.out
end Go.GL
/- The sanity check of the laws returns true: a closed run of the evaluator. -/
namespace Go.Proofs.YtepkmadmigkgmaaGreatDoor
open Go Go.GL
variable {m:Nat}{args c:List Value}{h:HF}{f:FuncId}
namespace GK
def u (k:IntKind)(l:List Int):List Value:=l.map fun n=>gZ k n
def d64:List Value:=u .u8 [0,1,56,2,57,49,28,3,61,58,42,50,38,29,17,4,62,47,59,36,45,43,51,22,53,39,33,30,24,18,12,5,63,55,48,27,60,41,37,16,46,35,44,21,52,32,23,11,54,26,40,15,34,20,31,10,25,14,19,9,13,8,7,6]
def p10:List Value:=u .u64 [1,10,100,1000,10000,100000,1000000,10000000,100000000,1000000000,10000000000,100000000000,1000000000000,10000000000000,100000000000000,1000000000000000,10000000000000000,100000000000000000,1000000000000000000,10000000000000000000]
def d32:List Value:=u .u8 [0,1,28,2,29,14,24,3,30,22,20,15,25,17,4,8,31,27,13,23,21,19,16,7,26,12,18,6,11,5,10,9]
noncomputable def h0:Hp:=Tr.put (Tr.put (Tr.put (Tr.mk none 13) 3 (some (.ro d64))) 0 (some (.ro p10))) 12 (some (.ro d32))
def okB:Option (Value×Hp×Nat×List Nat)→Bool
 |some (jx true,_,_,[])=>true
 |_=>false
theorem zh1 {r:Option (Value×Hp×Nat×List Nat)}(h:okB r=true):∃hx nx,r=some (jx true,hx,nx,[]):=by
 unfold okB at h;split at h
 ·exact ⟨_,_,rfl⟩
 cases h
set_option maxRecDepth 1000000 in
theorem zes:okB ((calN env 1000000 60).call 9 [] h0 20)=true:=by kernel_rfl
theorem zqc (b:Nat):h0.at b=if b=12 then some (.ro d32) else if b=0 then some (.ro p10) else if b=3 then some (.ro d64) else none:=by
 unfold h0;show Tr.get none _ b=_;rw [Tr.get_put none rfl,Tr.get_put none rfl,Tr.get_put none rfl,Tr.get_mk]
theorem nb_u {k:IntKind}{l:List Int}:∀v∈u k l,Nb m v:=fun v a=>by
 unfold u at a;rw [List.mem_map] at a;obtain ⟨n,_,rfl⟩:=a;exact Nb.int
theorem zrv:HNb (3*20) h0:=fun b x a=>by
 rw [zqc] at a;split at a
 ·rename_i e;injection a with a;subst e a;exact ⟨zo,nb_u⟩
 split at a
 ·rename_i e;injection a with a;subst e a;exact ⟨zo,nb_u⟩
 split at a
 ·rename_i e;injection a with a;subst e a;exact ⟨zo,nb_u⟩
 cases a
def G (h:HF):Prop:=h 3=some (.ro d64)∧h 0=some (.ro p10)∧h 12=some (.ro d32)
theorem gM {x:Blk}(h:x.view=.ro c):x=.ro c:=by
 cases x<;>simp [Blk.view] at h;subst h;rfl
theorem G_at {h:Hp}(p:G (hv h)):∀b x,h0.at b=some x→h.at b=some x:=fun b x a=>by
 obtain ⟨j,l,o⟩:=p;obtain ⟨v,d,q⟩:=uC j;obtain ⟨w,g,s⟩:=uC l;obtain ⟨y,i,u⟩:=uC o;rw [zqc] at a;split at a
 ·rename_i e;injection a with a;subst e a;rw [i,gM u]
 split at a
 ·rename_i e;injection a with a;subst e a;rw [g,gM s]
 split at a
 ·rename_i e;injection a with a;subst e a;rw [d,gM q]
 cases a
def orc (f:FuncId)(a:List Value):Option Value:=
 match AD f 9 with
 |true=>(match a with|[]=>some (jx true)|_=>none)
 |false=>none
theorem orc_ok:∀f args v,orc f args=some v→Orc rel G f args v:=fun f args v h=>by
 unfold orc at h;split at h
 ·rename_i a;have a:=Ay a;subst a;split at h
  ·injection h with h
   subst h;obtain ⟨b,g,e⟩:=zh1 zes;exact za3 (zri 1000000 60) e (fun x b=>eN b og) rfl (fun h d=>G_at d) zrv
  cases h
 cases h
end GK
def LL:Nat:=1180591620717411303424
noncomputable def cal (k:Nat):CalF:=calF env LL GK.orc GK.G k
theorem zqv (k:Nat):CalOk rel (calO env LL GK.orc GK.G k):=
 zb4 (X:=rel) (reg:=regOk) bK LL (fun _=>Dm) bM (fun C g d e b a=>mW bK b a) GK.orc_ok k
theorem zn7 (k:Nat):CalTo (calO env LL GK.orc GK.G k) (cal k):=zqu env LL GK.orc GK.G k
theorem zga (k:Nat)(a:GK.G h)(n:Nat):(cal (k+1)).call 9 [] h n=some (jx true,h,n,[]):=by
 show (match orcF GK.orc GK.G 9 [] h with|some v=>some (v,h,n,[])|none=>fnF env (cal k) LL 9 [] h n)=_;unfold orcF;rw [eS a];rfl
theorem zjd (k:Nat)(a:GK.orc f args=none)(h:HF)(n:Nat):(cal (k+1)).call f args h n=fnF env (cal k) LL f args h n:=by
 show (match orcF GK.orc GK.G f args h with|some v=>some (v,h,n,[])|none=>fnF env (cal k) LL f args h n)=_;have:orcF GK.orc GK.G f args h=none:=by
  unfold orcF;rw [a];split<;>rfl
 rw [this]
end Go.Proofs.YtepkmadmigkgmaaGreatDoor
namespace Go.GL
open Go
variable {ops r:List Oper}{n m i bytes size cap len off id bt n' n0 sz j l b a:Nat}{o:Oper}{w ms W:List Nat}{d:Tmp}{al ld:List (Nat×Nat)}{v z:Value}{ty e ty' xT t:TypeId}{args new cs vs c:List Value}{E:Env}{ik' ik:IntKind}{pos:String}{hi x y:Operand}{α:Type}{af:Array Edge}{f:FuncId}{g:Option (Nat×Bool)}
variable {u:Nat}{sT:TypeId}{h h':HF}
def EC (X:CtxF)(c:Code)(s:SV)(Q:Ex→SV→Prop):Prop:=∃e s',xk X c s=some (e,s')∧Q e s'
abbrev Za (X:CtxF)(ops:List Oper)(t:TF)(o:Oper)(d:Tmp)(P:Prop):Prop:=zh ops t o=true∧o.dst=some d∧zv X.nt (some d)=true∧P
def EO (X:CtxF)(ops l:List Oper)(s:SV)(Q:SV→Prop):Prop:=∃s',seqF X ops l s=some s'∧Q s'
def CF (C:CalF)(f:FuncId)(args:List Value)(h:HF)(n:Nat)(Q:Value→HF→Nat→List Nat→Prop):Prop:=∃v h' n' w,C.call f args h n=some (v,h',n',w)∧Q v h' n' w
theorem vH {e:Ex}{s:SV}{R:Ex→SV→Prop}:(∃a b,some (e,s)=some (a,b)∧R a b)↔R e s:=by
 constructor
 ·rintro ⟨a,b,h,c⟩;injection h with h;injection h with h1 h2;subst h1 h2;exact c
 exact fun h=>⟨_,_,rfl,h⟩
section
variable {X:CtxF}{s:SV}{Q:Ex→SV→Prop}
theorem sW {c:Code}{a:Ex→SV→Prop}(h:EC X c s Q)(q:∀e s,Q e s→a e s):EC X c s a:=by
 obtain ⟨e,u,b,p⟩:=h;exact ⟨e,u,b,q _ _ p⟩
theorem yu:EC X .skip s Q↔Q .normal s:=by
 unfold EC xk;constructor
 ·rintro ⟨e,b,h,a⟩;injection h with h;injection h with h1 h2;subst h1 h2;exact a
 exact fun h=>⟨_,_,rfl,h⟩
theorem zom:EC X (.exit i) s Q↔Q (.exit i) s:=by
 unfold EC xk;constructor
 ·rintro ⟨e,b,h,a⟩;injection h with h;injection h with h1 h2;subst h1 h2;exact a
 exact fun h=>⟨_,_,rfl,h⟩
theorem zq9:EC X .ret s Q↔Q .ret s:=by
 unfold EC xk;constructor
 ·rintro ⟨e,b,h,a⟩;injection h with h;injection h with h1 h2;subst h1 h2;exact a
 exact fun h=>⟨_,_,rfl,h⟩
theorem zjr:EC X (.label l) s Q↔Q .normal s:=by
 unfold EC xk;constructor
 ·rintro ⟨e,b,h,a⟩;injection h with h;injection h with h1 h2;subst h1 h2;exact a
 exact fun h=>⟨_,_,rfl,h⟩
theorem zjq {c:Code}:EC X (.scope c) s Q↔EC X c s Q:=Dm
def after (X:CtxF)(b:Code)(Q:Ex→SV→Prop):Ex→SV→Prop
 | .normal,s=>EC X b s Q
 |e,s=>Q e s
theorem zK {b:Code}:after X b Q .normal s↔EC X b s Q:=Dm
theorem zce {b:Code}:after X b Q (.exit i) s↔Q (.exit i) s:=Dm
theorem zgn {b:Code}:after X b Q .ret s↔Q .ret s:=Dm
theorem yY {a b:Code}:EC X (.seq a b) s Q↔EC X a s (after X b Q):=by
 unfold EC;rw [xk];cases h:xk X a s with
 |none=>simp
 |some r=>
  obtain ⟨e,c⟩:=r;cases e<;>simp only [vH]<;>exact Dm
def pp (id:Nat)(Q:Ex→SV→Prop):Ex→SV→Prop
 | .exit j,s=>if j=id then Q .normal s else Q (.exit j) s
 |e,s=>Q e s
theorem iG:pp id Q .normal s↔Q .normal s:=Dm
theorem zej:pp id Q .ret s↔Q .ret s:=Dm
theorem zbc:pp id Q (.exit j) s↔if j=id then Q .normal s else Q (.exit j) s:=Dm
theorem zjs {b:Code}:EC X (.block id b) s Q↔EC X b s (pp id Q):=by
 unfold EC;rw [xk];cases h:xk X b s with
 |none=>simp
 |some r=>
  obtain ⟨e,a⟩:=r;cases e with
  |exit j=>
   by_cases hj:j=id
   ·subst hj;simp only [Cb,vH,pp,if_true]
   have:AD j id=false:=by
    cases hb:AD j id with
    |false=>rfl
    |true=>exact eN (Ay hb) hj
   simp only [this,vH,pp,eP hj]
  |normal=>simp only [vH,pp]
  |ret=>simp only [vH,pp]
theorem ze {c:Operand}{a b:Code}(h:evF s.t c=jx true):EC X (.cond c a b) s Q↔EC X a s Q:=by
 unfold EC;rw [xk,h]
theorem za {c:Operand}{a b:Code}(h:evF s.t c=jx false):EC X (.cond c a b) s Q↔EC X b s Q:=by
 unfold EC;rw [xk,h]
theorem ug {ops:Array Oper}:EC X (.region id ops false) s Q↔EO X ops.toList ops.toList s (Q .normal):=by
 unfold EC EO;rw [xk];cases h:seqF X ops.toList ops.toList s with
 |none=>simp
 |some r=>simp only [vH];simp
theorem zol {c:Code}(I:Nat→SV→Prop)(p:∀m s,I m s→EC X c s fun e a=>match e with| .normal=>∃b,b<m∧I b a|e=>Q e a)(u:I m s)(hm:m<X.L):EC X (.loop c) s Q:=by
 have A:∀(L m:Nat) (s:SV),m<L→I m s→∃e a,fY (xk X c) L s=some (e,a)∧Q e a:=by
  intro L;induction L with
  |zero=>intro m s hm;exact eN hm (Nat.not_lt_zero _)
  |succ L ih=>
   intro m s hm u;obtain ⟨e,C,B,q⟩:=p m s u;unfold fY;rw [B];cases e with
   |normal=>
    obtain ⟨b,D,y⟩:=q;exact ih b C zo y
   |exit i=>exact ⟨_,_,rfl,q⟩
   |ret=>exact ⟨_,_,rfl,q⟩
 exact A X.L m s hm u
end
section
variable {X:CtxF}{s:SV}{Q:SV→Prop}{d:Option Tmp}
theorem xg:EO X ops [] s Q↔Q s:=by
 unfold EO seqF;constructor
 ·rintro ⟨b,h,a⟩;injection h with h;subst h;exact a
 exact fun h=>⟨_,rfl,h⟩
theorem zq8 (b:zh ops s.t o=false)(a:zv X.nt o.dst=true):EO X ops (o::r) s Q↔EO X ops r ⟨putF s.t o.dst undef,s.h,s.n,s.w⟩ Q:=by
 unfold EO;rw [seqF,b];simp only [xH,a,addW]
theorem zq7 (p:zh ops s.t o=true)(b:zv X.nt o.dst=true)(a:cls o.op=0)(c:yy X.E o.op (evF s.t)=some v):
  EO X ops (o::r) s Q↔EO X ops r ⟨putF s.t o.dst v,s.h,s.n,s.w⟩ Q:=by
 unfold EO;rw [seqF,p];simp only [opF,a,c,xH,b,addW]
theorem zoj (A:zh ops s.t o=true)(q:zv X.nt o.dst=true)(a:o.op=.convert t e x)(hb:vI X.E t e (evF s.t x)=none)(u:rX X.E t e (evF s.t x) s.h=none)(y:kZ X.E t e (evF s.t x)=some v):
  EO X ops (o::r) s Q↔EO X ops r ⟨putF s.t o.dst v,s.h,s.n,s.w⟩ Q:=by
 unfold EO;rw [seqF,A];have p:cls o.op=4:=by rw [a];rfl
 have c:mkE X.E o.op (evF s.t)=none:=by rw [a];exact hb
 have b:yy X.E o.op (evF s.t)=some v:=by rw [a];exact y
 simp only [opF,p,c];rw [a] at b ⊢;simp only [u,b,xH,q,addW]
theorem zoi {a:Addr}(A:zh ops s.t o=true)(u:zv X.nt o.dst=true)(b:o.op=.load t x)(p:evF s.t x=mo (some a))(y:yB X.E t s.h a=some v):
  EO X ops (o::r) s Q↔EO X ops r ⟨putF s.t o.dst v,s.h,s.n,s.w⟩ Q:=by
 unfold EO;rw [seqF,A];have q:cls o.op=1:=by rw [b];rfl
 have c:po X.E o.op (evF s.t) s.h=some (v,a.block):=by rw [b];simp only [po,p,y]
 simp only [opF,q,c,xH,u,addW]
theorem jm {m:Mk}(p:zh ops s.t o=true)(b:zv X.nt o.dst=true)(a:cls o.op=2)(hm:mkE X.E o.op (evF s.t)=some m):
  EO X ops (o::r) s Q↔EO X ops r ⟨putF s.t o.dst (m.val s.n),upd s.h (m.name s.n) (some (.row m.c m.e)),s.n+1,s.w⟩ Q:=by
 unfold EO;rw [seqF,p];simp only [opF,a,hm,mkF,xH,b,addW]
theorem rS (p:zh ops s.t o=true)(b:zv X.nt o.dst=true)(a:cls o.op=3)(c:effF X.E o.op (evF s.t) s.h s.n=some (.val v h n w)):
  EO X ops (o::r) s Q↔EO X ops r ⟨putF s.t o.dst v,h,n,addW X.n0 w s.w⟩ Q:=by
 unfold EO;rw [seqF,p];simp only [opF,a,mf,c,xH,b]
theorem zok (P:Value→HF→Nat→List Nat→Prop)(A:zh ops s.t o=true)(q:zv X.nt o.dst=true)(p:cls o.op=3)(u:effF X.E o.op (evF s.t) s.h s.n=some (.enter f args))(a:CF X.C f args s.h s.n P)
  (h:∀v h n w,P v h n w→EO X ops r ⟨putF s.t o.dst v,h,n,addW X.n0 w s.w⟩ Q):EO X ops (o::r) s Q:=by
 obtain ⟨v,c,B,D,b,y⟩:=a;have:=h v c B D y;unfold EO at this ⊢;rw [seqF,A];simp only [opF,p,mf,u,b,xH,q];exact this
end
theorem oL:∀(l:List Oper) (acc:List Nat),gP (xA l acc)=gP acc+gP l:=by
 intro l;induction l with
 |nil=>intro acc;simp [xA]
 |cons o l ih=>intro acc;simp [xA,ih];omega
theorem zbl {X:CtxF}{ops:List Oper}:∀(l:List Oper) (ms:List Nat) (i:Nat) (s:SV) (ld:List (Nat×Nat)),gP l≤gP ms→l.all (fun o=>Eh (cls o.op) 2)=true→z0 X ops l ms i ⟨s,[],ld,[]⟩=seqF X ops l s:=by
 intro l;induction l with
 |nil=>intro ms i s ld _ _;simp [z0,seqF]
 |cons o l ih=>
  intro ms i s ld q p;cases ms with
  |nil=>simp at q
  |cons m ms=>
   simp only [Gk,AA] at p;have a:gP l≤gP ms:=by simpa using q
   have u:cls o.op<2:=tu p.1;unfold z0 seqF;simp only;cases hw:zh ops s.t o with
   |false=>
    simp only;congr 1;funext s1;exact ih ms (i+1) s1 ld a p.2
   |true=>
    simp only;unfold rL opF;cases hc:cls o.op with
    |zero=>
     simp only [hc];cases yy X.E o.op (evF s.t) with
     |none=>rfl
     |some v=>
      simp only;congr 1;funext s1;exact ih ms (i+1) s1 ld a p.2
    |succ c=>
     cases c with
     |zero=>
      simp only [hc,wn];cases po X.E o.op (evF s.t) s.h with
      |none=>rfl
      |some vb=>
       obtain ⟨v,b⟩:=vb;simp only [vC,qn,AV];congr 1;funext s1;exact ih ms (i+1) s1 _ a p.2
     |succ c=>omega
theorem zae {X:CtxF}{ops:Array Oper}{s:SV}{Q:Ex→SV→Prop}(a:ops.toList.all (fun o=>Eh (cls o.op) 2)=true):EC X (.region id ops true) s Q↔EO X ops.toList ops.toList s (Q .normal):=by
 unfold EC EO;rw [xk];rw [zbl _ _ _ _ _ (by rw [oL];simp) a];cases h:seqF X ops.toList ops.toList s with
 |none=>simp
 |some r=>simp only [vH];simp
def gk (t:TF):List (Nat×Value)→TF
 |[]=>t
 |(i,v)::r=>upd (gk t r) i v
def tJ (t:TF):List (Nat×Value)→Prop
 |[]=>True
 |(i,v)::r=>t i=v∧tJ t r
theorem wU {t:TF}:∀{l:List (Nat×Value)},tJ t l→gk t l=t:=by
 intro l;induction l with
 |nil=>intro _;rfl
 |cons p l ih=>
  intro h;obtain ⟨i,v⟩:=p;obtain ⟨a,g⟩:=h;show upd (gk t l) i v=t;rw [ih g,upd_self a]
def cut (l:List (Nat×Value))(I:HF→Nat→List Nat→Prop)(Q:Ex→SV→Prop):Ex→SV→Prop
 | .normal,s=>tJ s.t l∧I s.h s.n s.w
 |e,s=>Q e s
theorem zlb {l:List (Nat×Value)}{I:HF→Nat→List Nat→Prop}{Q:Ex→SV→Prop}{s:SV}(a:tJ s.t l)(g:I s.h s.n s.w):cut l I Q .normal s:=⟨a,g⟩
theorem zi7 {l:List (Nat×Value)}{I:HF→Nat→List Nat→Prop}{Q:Ex→SV→Prop}{s:SV}:cut l I Q (.exit i) s↔Q (.exit i) s:=Dm
theorem zn0 {l:List (Nat×Value)}{I:HF→Nat→List Nat→Prop}{Q:Ex→SV→Prop}{s:SV}:cut l I Q .ret s↔Q .ret s:=Dm
theorem zra {X:CtxF}{a b:Code}{s:SV}{Q:Ex→SV→Prop}(l:List (Nat×Value))(I:HF→Nat→List Nat→Prop)(u:EC X a s (cut l I (after X b Q)))(hb:∀t h n w,I h n w→EC X b ⟨gk t l,h,n,w⟩ Q):EC X a s (after X b Q):=by
 refine sW u fun e g j=>?_;cases e with
 |normal=>
  obtain ⟨p,q⟩:=j;have:=hb g.t g.h g.n g.w q;rw [wU p] at this;exact this
 |exit i=>exact j
 |ret=>exact j
def qY {α:Type}(live:α→List (Nat×Value))(I:α→HF→Nat→List Nat→Prop)(μ:α→Nat)(a:α)(Q:Ex→SV→Prop):Ex→SV→Prop
 | .normal,s=>∃a',μ a'<μ a∧tJ s.t (live a')∧I a' s.h s.n s.w
 |e,s=>Q e s
theorem goOn {g:α→List (Nat×Value)}{I:α→HF→Nat→List Nat→Prop}{μ:α→Nat}{a:α}{Q:Ex→SV→Prop}{s:SV}(j:α)(p:μ j<μ a)(q:tJ s.t (g j))(h3:I j s.h s.n s.w):qY g I μ a Q .normal s:=⟨j,p,q,h3⟩
theorem er {g:α→List (Nat×Value)}{I:α→HF→Nat→List Nat→Prop}{μ:α→Nat}{a:α}{Q:Ex→SV→Prop}{s:SV}:qY g I μ a Q (.exit i) s↔Q (.exit i) s:=Dm
theorem zbh {g:α→List (Nat×Value)}{I:α→HF→Nat→List Nat→Prop}{μ:α→Nat}{a:α}{Q:Ex→SV→Prop}{s:SV}:qY g I μ a Q .ret s↔Q .ret s:=Dm
theorem ye {X:CtxF}{c:Code}{t:TF}{h:HF}{n:Nat}{w:List Nat}{Q:Ex→SV→Prop}(g:α→List (Nat×Value))(I:α→HF→Nat→List Nat→Prop)(μ:α→Nat)(a:α)(q:tJ t (g a))(p:I a h n w)(hm:μ a<X.L)
  (j:∀a t h n w,I a h n w→EC X c ⟨gk t (g a),h,n,w⟩ (qY g I μ a Q)):EC X (.loop c) ⟨t,h,n,w⟩ Q:=by
 refine zol (I:=fun m s=>∃a,μ a=m∧tJ s.t (g a)∧I a s.h s.n s.w) ?_ ⟨a,rfl,q,p⟩ hm;rintro m ⟨t,h,n,w⟩ ⟨a,rfl,q,p⟩;have:=j a t h n w p;rw [wU q] at this;refine sW this fun e s u=>?_;cases e with
 |normal=>
  obtain ⟨A,B,C,D⟩:=u;exact ⟨μ A,B,A,rfl,C,D⟩
 |exit i=>exact u
 |ret=>exact u
section
variable {X:CtxF}{t:TF}{h:HF}{Q:SV→Prop}
theorem zsa (a:zh ops t o=false∧o.dst=some d∧zv X.nt (some d)=true)(k:EO X ops r ⟨upd t d undef,h,n,w⟩ Q):EO X ops (o::r) ⟨t,h,n,w⟩ Q:=by
 obtain ⟨a,g,j⟩:=a;rw [zq8 a (by rw [g];exact j),g];exact k
theorem zS (a:Za X ops t o d (cls o.op=0))(q:yy X.E o.op (evF t)=some v)(k:EO X ops r ⟨upd t d v,h,n,w⟩ Q):EO X ops (o::r) ⟨t,h,n,w⟩ Q:=by
 obtain ⟨a,g,p,j⟩:=a;rw [zq7 a (by rw [g];exact p) j q,g];exact k
theorem ZB {p:BinOp}{ty ty':TypeId}{x y:Operand}{A B v:Value}(c:Za X ops t o d (o.op=.binOp p ty x y ty'∧evF t x=A∧evF t y=B))(e:binE X.E p ty A B=some v)(k:EO X ops r ⟨upd t d v,h,n,w⟩ Q):EO X ops (o::r) ⟨t,h,n,w⟩ Q:=by
 obtain ⟨a,b,c,f,g,j⟩:=c;refine zS ⟨a,b,c,(by rw [f];rfl)⟩ ?_ k;rw [f];show binE X.E p ty (evF t x) (evF t y)=_;rw [g,j];exact e
theorem st_I {a:Int}(g:Za X ops t o d (cls o.op=0∧yy X.E o.op (evF t)=some (gZ ik a)))(k:EO X ops r ⟨upd t d (gZ ik a),h,n,w⟩ Q):EO X ops (o::r) ⟨t,h,n,w⟩ Q:=by obtain ⟨g,p,q,j,s⟩:=g;exact zS ⟨g,p,q,j⟩ s k
theorem st_B {a:Bool}(g:Za X ops t o d (cls o.op=0∧yy X.E o.op (evF t)=some (jx a)))(k:EO X ops r ⟨upd t d (jx a),h,n,w⟩ Q):EO X ops (o::r) ⟨t,h,n,w⟩ Q:=by obtain ⟨g,p,q,j,s⟩:=g;exact zS ⟨g,p,q,j⟩ s k
theorem st_S {a:Option Addr}{c:Nat}(g:Za X ops t o d (cls o.op=0∧yy X.E o.op (evF t)=some (gS a l c)))(k:EO X ops r ⟨upd t d (gS a l c),h,n,w⟩ Q):EO X ops (o::r) ⟨t,h,n,w⟩ Q:=by obtain ⟨g,p,q,j,s⟩:=g;exact zS ⟨g,p,q,j⟩ s k
theorem st_P (a:Za X ops t o d (cls o.op=0∧yy X.E o.op (evF t)=some (mo (some ⟨b,off,none⟩))))(k:EO X ops r ⟨upd t d (mo (some ⟨b,off,none⟩)),h,n,w⟩ Q):EO X ops (o::r) ⟨t,h,n,w⟩ Q:=by obtain ⟨a,j,p,g,q⟩:=a;exact zS ⟨a,j,p,g⟩ q k
theorem st_T {s:ByteArray}(a:Za X ops t o d (cls o.op=0∧yy X.E o.op (evF t)=some (jy s)))(k:EO X ops r ⟨upd t d (jy s),h,n,w⟩ Q):EO X ops (o::r) ⟨t,h,n,w⟩ Q:=by obtain ⟨a,j,p,g,q⟩:=a;exact zS ⟨a,j,p,g⟩ q k
theorem st_A {cs:Array Value}(a:Za X ops t o d (cls o.op=0∧yy X.E o.op (evF t)=some (.agg cs)))(k:EO X ops r ⟨upd t d (.agg cs),h,n,w⟩ Q):EO X ops (o::r) ⟨t,h,n,w⟩ Q:=by obtain ⟨a,j,p,g,q⟩:=a;exact zS ⟨a,j,p,g⟩ q k
theorem st_U {cs:Array Value}(a:Za X ops t o d (cls o.op=0∧yy X.E o.op (evF t)=some (.tuple cs)))(k:EO X ops r ⟨upd t d (.tuple cs),h,n,w⟩ Q):EO X ops (o::r) ⟨t,h,n,w⟩ Q:=by obtain ⟨a,j,p,g,q⟩:=a;exact zS ⟨a,j,p,g⟩ q k
theorem xj {x:Int}(h: -9223372036854775808≤x∧x<9223372036854775808):Ai .i64 x=x:=by
 simp only [Ai,Cj,BJ];simp;omega
theorem uI {x:Operand}{a b:Int}(j:Za X ops t o d (o.op=.binOp .add ty x y ty'∧evF t x=gZ .i64 a∧evF t y=gZ .i64 b))(g: -9223372036854775808≤a+b∧a+b<9223372036854775808)
  (k:EO X ops r ⟨upd t d (gZ .i64 (a+b)),h,n,w⟩ Q):EO X ops (o::r) ⟨t,h,n,w⟩ Q:=by
 refine ZB j ?_ k;show some (gZ .i64 (Ai .i64 (a+b)))=_;rw [xj g]
theorem qO {x:Operand}{a b:Int}(j:Za X ops t o d (o.op=.binOp .sub ty x y ty'∧evF t x=gZ .i64 a∧evF t y=gZ .i64 b))(g: -9223372036854775808≤a-b∧a-b<9223372036854775808)
  (k:EO X ops r ⟨upd t d (gZ .i64 (a-b)),h,n,w⟩ Q):EO X ops (o::r) ⟨t,h,n,w⟩ Q:=by
 refine ZB j ?_ k;show some (gZ .i64 (Ai .i64 (a-b)))=_;rw [xj g]
theorem st_mul {x:Operand}{a b:Int}(s:zh ops t o=true)(j:o.dst=some d)(p:zv X.nt (some d)=true)(g:o.op=.binOp .mul ty x y ty')(hx:evF t x=gZ .i64 a)(u:evF t y=gZ .i64 b)(q: -9223372036854775808≤a*b∧a*b<9223372036854775808)
  (k:EO X ops r ⟨upd t d (gZ .i64 (a*b)),h,n,w⟩ Q):EO X ops (o::r) ⟨t,h,n,w⟩ Q:=by
 refine zS ⟨s,j,p,(by rw [g];rfl)⟩ ?_ k;rw [g];show binE X.E .mul ty (evF t x) (evF t y)=_;rw [hx,u];show some (gZ .i64 (Ai .i64 (a*b)))=_;rw [xj q]
theorem zj1 {x:Operand}{a b:Int}(j:Za X ops t o d (o.op=.binOp .rem ty x y ty'∧evF t x=gZ ik a∧evF t y=gZ ik b))(g:b≠0)
  (k:EO X ops r ⟨upd t d (gZ ik (a.tmod b)),h,n,w⟩ Q):EO X ops (o::r) ⟨t,h,n,w⟩ Q:=by
 refine ZB j ?_ k;have:ikEq ik ik=true:=by cases ik<;>rfl
 simp only [binE,isSh,this,intE,eP g]
theorem yC (ik:IntKind):ikEq ik ik=true:=by cases ik<;>rfl
theorem lW {x:Operand}{a b:Int}(g:Za X ops t o d (o.op=.binOp .lss ty x y ty'∧evF t x=gZ ik a∧evF t y=gZ ik b))
  (k:EO X ops r ⟨upd t d (jx (decide (a<b))),h,n,w⟩ Q):EO X ops (o::r) ⟨t,h,n,w⟩ Q:=by
 refine ZB g ?_ k;simp only [binE,isSh,yC,intE,zaf]
theorem zhc {x:Operand}{a b:Int}(g:Za X ops t o d (o.op=.binOp .leq ty x y ty'∧evF t x=gZ ik a∧evF t y=gZ ik b))
  (k:EO X ops r ⟨upd t d (jx (decide (a≤b))),h,n,w⟩ Q):EO X ops (o::r) ⟨t,h,n,w⟩ Q:=by
 refine ZB g ?_ k;simp only [binE,isSh,yC,intE,gF]
theorem zhd {x:Operand}{a b:Int}(g:Za X ops t o d (o.op=.binOp .gtr ty x y ty'∧evF t x=gZ ik a∧evF t y=gZ ik b))
  (k:EO X ops r ⟨upd t d (jx (decide (b<a))),h,n,w⟩ Q):EO X ops (o::r) ⟨t,h,n,w⟩ Q:=by
 refine ZB g ?_ k;simp only [binE,isSh,yC,intE,zaf]
theorem zaq {x:Operand}{a b:Int}(g:Za X ops t o d (o.op=.binOp .geq ty x y ty'∧evF t x=gZ ik a∧evF t y=gZ ik b))
  (k:EO X ops r ⟨upd t d (jx (decide (b≤a))),h,n,w⟩ Q):EO X ops (o::r) ⟨t,h,n,w⟩ Q:=by
 refine ZB g ?_ k;simp only [binE,isSh,yC,intE,gF]
theorem zc5 {x:Operand}{a b:Int}(g:Za X ops t o d (o.op=.binOp .eql ty x y ty'∧evF t x=gZ ik a∧evF t y=gZ ik b))
  (k:EO X ops r ⟨upd t d (jx (decide (a=b))),h,n,w⟩ Q):EO X ops (o::r) ⟨t,h,n,w⟩ Q:=by
 refine ZB g ?_ k;simp only [binE,isSh,yC,intE,gG];rfl
theorem zsb {x:Operand}{a b:Int}(g:Za X ops t o d (o.op=.binOp .neq ty x y ty'∧evF t x=gZ ik a∧evF t y=gZ ik b))
  (k:EO X ops r ⟨upd t d (jx (!decide (a=b))),h,n,w⟩ Q):EO X ops (o::r) ⟨t,h,n,w⟩ Q:=by
 refine ZB g ?_ k;simp only [binE,isSh,yC,intE,gG];rfl
theorem wO (b o k:Nat):Addr.add ⟨b,o,none⟩ k=⟨b,o+k,none⟩:=pM _ rfl k
theorem oe {e:TypeId}{x i:Operand}{z:Value}{j:Int}(a:Za X ops t o d (o.op=.indexAddr ty x i∧X.E.und ty=some (.slice e)∧X.E.inf e=some (sz,bt,z)∧evF t x=gS (some ⟨b,off,none⟩) len cap∧evF t i=gZ ik j))(u:0≤j∧j<len)(k:EO X ops r ⟨upd t d (mo (some ⟨b,off+j.toNat*sz,none⟩)),h,n,w⟩ Q):EO X ops (o::r) ⟨t,h,n,w⟩ Q:=by
 obtain ⟨a,p,s,g,A,hi,B,q⟩:=a;refine zS ⟨a,p,s,(by rw [g];rfl)⟩ ?_ k;rw [g];show yV X.E ty (evF t x) (evF t i)=_;rw [B,q];simp only [yV,A,hi,eS u,wO]
theorem zX {E:Env}{h:HF}{x:BF}(p:isAgg E ty=some false)(hb:h b=some x)(hx:x.cells=some c∧c[off]?=some v):yB E ty h ⟨b,off,none⟩=some v:=by
 obtain ⟨hx,g⟩:=hx;have a:=(nN.1 g).1;have j:Ag (off+1) (gP c)=true:=oo a;have:(c.drop off).take 1=[v]:=by
  rw [Bw a];simp [(nN.1 g).2]
 simp only [yB,p,tR,hb,hx,j,Cy,AV,this]
theorem yw {E:Env}{h:HF}{z:Value}{x:BF}(a:isAgg E ty=some true∧E.inf ty=some (sz,bt,z))(hb:h b=some x)(hx:x.cells=some c)(p:off+sz≤gP c)(j:(c.drop off).take sz=cs):yB E ty h ⟨b,off,none⟩=some (.agg cs.toArray):=by
 obtain ⟨a,hi⟩:=a;have g:Ag (off+sz) (gP c)=true:=oo p;simp only [yB,a,hi,tR,hb,hx,g,Cy,AV,j,Option.map_some]
theorem z7 {x:Operand}{a:Addr}(g:Za X ops t o d (o.op=.load ty x∧evF t x=mo (some a)))(s:yB X.E ty h a=some v)
  (k:EO X ops r ⟨upd t d v,h,n,w⟩ Q):EO X ops (o::r) ⟨t,h,n,w⟩ Q:=by
 obtain ⟨g,j,p,q,u⟩:=g;rw [zoi g (by rw [j];exact p) q u s,j];exact k
theorem zT {x:Operand}{y:BF}(a:Za X ops t o d (o.op=.load ty x∧isAgg X.E ty=some false∧evF t x=mo (some ⟨b,off,none⟩)))(hb:h b=some y)(g:y.cells=some c∧c[off]?=some v)
  (k:EO X ops r ⟨upd t d v,h,n,w⟩ Q):EO X ops (o::r) ⟨t,h,n,w⟩ Q:=by obtain ⟨a,q,s,u,j,A⟩:=a;obtain ⟨g,p⟩:=g;exact z7 ⟨a,q,s,u,A⟩ (zX j hb ⟨g,p⟩) k
theorem xV {e:TypeId}{z:Value}(a:Za X ops t o d (o.op=.alloc e∧X.E.inf e=some (sz,bt,z)))
  (k:EO X ops r ⟨upd t d (mo (some ⟨3*n+2,0,none⟩)),upd h (3*n+2) (some (.row (zn z) e)),n+1,w⟩ Q):EO X ops (o::r) ⟨t,h,n,w⟩ Q:=by
 obtain ⟨a,g,q,j,hi⟩:=a;have p:mkE X.E o.op (evF t)=some ⟨zn z,e,false,none⟩:=by rw [j];simp only [mkE,hi]
 rw [jm a (by rw [g];exact q) (by rw [j];rfl) p,g];exact k
theorem pZ {e:TypeId}{c:Nat}(a:Za X ops t o d (cls o.op=2∧mkE X.E o.op (evF t)=some ⟨cs,e,false,some (l,c)⟩))
  (k:EO X ops r ⟨upd t d (gS (some ⟨3*n+2,0,none⟩) l c),upd h (3*n+2) (some (.row cs e)),n+1,w⟩ Q):EO X ops (o::r) ⟨t,h,n,w⟩ Q:=by
 obtain ⟨a,g,q,j,p⟩:=a;rw [jm a (by rw [g];exact q) j p,g];exact k
theorem zc0 {e:TypeId}(a:Za X ops t o d (cls o.op=2∧mkE X.E o.op (evF t)=some ⟨cs,e,false,none⟩))
  (k:EO X ops r ⟨upd t d (mo (some ⟨3*n+2,0,none⟩)),upd h (3*n+2) (some (.row cs e)),n+1,w⟩ Q):EO X ops (o::r) ⟨t,h,n,w⟩ Q:=by
 obtain ⟨a,g,q,j,p⟩:=a;rw [jm a (by rw [g];exact q) j p,g];exact k
theorem vB {e:TypeId}{l c:Operand}{z:Value}(g:Za X ops t o d (o.op=.makeSlice ty l c∧X.E.und ty=some (.slice e)∧X.E.inf e=some (sz,bt,z)∧evF t l=gZ ik (len:Int)∧evF t c=gZ ik' (cap:Int)∧gP (zn z)=sz))(a:len≤cap∧cap*bt≤1099511627776∧cap≤1099511627776)
  (k:EO X ops r ⟨upd t d (gS (some ⟨3*n+2,0,none⟩) len cap),upd h (3*n+2) (some (.row (rep cap (zn z)) e)),n+1,w⟩ Q):EO X ops (o::r) ⟨t,h,n,w⟩ Q:=by
 obtain ⟨g,j,F,p,G,hi,C,B,H⟩:=g;have D:mkE X.E o.op (evF t)=some ⟨rep cap (zn z),e,false,some (len,cap)⟩:=by
  rw [p];show tn X.E ty (evF t l) (evF t c)=_;rw [C,B];have q:=oo a.1;have s:=oo a.2.1;have u:=oo a.2.2;have A:AD (gP (zn z)) sz=true:=by rw [H];exact Cb _
  show (match X.E.und ty,gZ ik (.ofNat len),gZ ik' (.ofNat cap) with|some (.slice e),gZ _ (.ofNat len),gZ _ (.ofNat cap)=>_|_,_,_=>none)=_;simp only [G,hi,q,s,u,A,AV]
 rw [jm g (by rw [j];exact F) (by rw [p];rfl) D,j];exact k
theorem wD {w:List Nat}(h:3*n0≤b):addW n0 [b] w=w:=by
 simp only [addW,oo h]
theorem pN {w:List Nat}(h:b<3*n0):addW n0 [b] w=b::w:=by
 have:Ag (3*n0) b=false:=by
  cases hb:Ag (3*n0) b with
  |false=>rfl
  |true=>have:=tu hb;omega
 simp only [addW,this]
theorem uZ {h:HF}{e:TypeId}(hb:h b=some (.row c e))(j:off+gP vs≤gP c)(g:ones vs=true):vA h ⟨b,off,none⟩ vs=some (upd h b (some (.row (zu c off vs) e))):=by
 have a:Ag (off+gP vs) (gP c)=true:=oo j;simp only [vA,hb,a,g,Cy,AV]
theorem splice_one (c:List Value)(off:Nat)(v:Value)(h:off<gP c):zu c off [v]=c.set off v:=by
 unfold zu;rw [Eg];simp [h]
theorem xn {E:Env}{a x:Operand}{z:Value}{e:TypeId}(hi:E.inf ty=some (sz,bt,z))(q:evF t a=mo (some ⟨b,off,none⟩))(j:gP (zn (evF t x))=sz)(p:ones (zn (evF t x))=true)(hb:h b=some (.row c e))(s:off+sz≤gP c):
  effF E (.store ty a x) (evF t) h n=some (.val undef (upd h b (some (.row (zu c off (zn (evF t x))) e))) n [b]):=by
 have g:AD (gP (zn (evF t x))) sz=true:=by rw [j];exact Cb sz
 simp only [effF,uG,q,hi,g,uZ hb (by rw [j];exact s) p]
theorem yF {a x:Operand}{z:Value}{e:TypeId}(j:zh ops t o=true∧o.dst=none∧o.op=.store ty a x∧X.E.inf ty=some (sz,bt,z)∧evF t a=mo (some ⟨b,off,none⟩)∧zn (evF t x)=cs∧gP cs=sz∧ones cs=true)(hb:h b=some (.row c e))(A:off+sz≤gP c)(g:3*X.n0≤b)
  (k:EO X ops r ⟨t,upd h b (some (.row (zu c off cs) e)),n,w⟩ Q):EO X ops (o::r) ⟨t,h,n,w⟩ Q:=by
 obtain ⟨j,p,q,hi,u,C,B,s⟩:=j;subst C;rw [rS j (by rw [p];rfl) (by rw [q];rfl) (by rw [q];exact xn hi u B s hb A),p];simp only [wD g];exact k
theorem zas (c cs:List Value)(h:gP cs=gP c):zu c 0 cs=cs:=by
 unfold zu;simp [h]
theorem yc {a x:Operand}{z:Value}(cs:List Value){e:TypeId}(j:zh ops t o=true∧o.dst=none∧o.op=.store ty a x∧X.E.inf ty=some (sz,bt,z)∧evF t a=mo (some ⟨b,0,none⟩)∧zn (evF t x)=cs∧gP cs=sz∧ones cs=true)(hb:h b=some (.row c e))(C:gP c=sz)(g:3*X.n0≤b)
  (k:EO X ops r ⟨t,upd h b (some (.row cs e)),n,w⟩ Q):EO X ops (o::r) ⟨t,h,n,w⟩ Q:=by
 obtain ⟨j,s,u,hi,q,B,A,p⟩:=j;refine yF ⟨j,s,u,hi,q,B,A,p⟩ hb zo g ?_;rw [zas c cs zo];exact k
theorem zcz {a x:Operand}{z:Value}{e:TypeId}(B:zh ops t o=true)(j:o.dst=none)(p:o.op=.store ty a x)(hi:X.E.inf ty=some (sz,bt,z))(s:evF t a=mo (some ⟨b,off,none⟩))(hx:zn (evF t x)=cs)(A:gP cs=sz)(q:ones cs=true)(hb:h b=some (.row c e))(u:off+sz≤gP c)(g:b<3*X.n0)
  (k:EO X ops r ⟨t,upd h b (some (.row (zu c off cs) e)),n,b::w⟩ Q):EO X ops (o::r) ⟨t,h,n,w⟩ Q:=by
 subst hx;rw [rS B (by rw [j];rfl) (by rw [p];rfl) (by rw [p];exact xn hi s A q hb u),j];simp only [pN g];exact k
theorem zF (P:Value→HF→Nat→List Nat→Prop)(j:Za X ops t o d (cls o.op=3∧effF X.E o.op (evF t) h n=some (.enter f args)))(a:CF X.C f args h n P)
  (k:∀v h' n' g,P v h' n' g→EO X ops r ⟨upd t d v,h',n',addW X.n0 g w⟩ Q):EO X ops (o::r) ⟨t,h,n,w⟩ Q:=by
 obtain ⟨j,p,u,q,s⟩:=j;refine zok P j (by rw [p];exact u) q s a fun v h' n' g A=>?_;rw [p];exact k v h' n' g A
theorem zj3 (q:zh ops t o=true)(a:o.dst=some d)(p:zv X.nt (some d)=true)(g:cls o.op=3)(j:effF X.E o.op (evF t) h n=some (.val v h n []))(k:EO X ops r ⟨upd t d v,h,n,w⟩ Q):EO X ops (o::r) ⟨t,h,n,w⟩ Q:=by
 rw [rS q (by rw [a];exact p) g j,a];exact k
theorem wm {e:TypeId}{x:Operand}{a:Int}(g:Za X ops t o d (o.op=.convert ty e x∧vI X.E ty e (evF t x)=none∧rX X.E ty e (evF t x) h=none))(A:kZ X.E ty e (evF t x)=some (gZ ik a))(k:EO X ops r ⟨upd t d (gZ ik a),h,n,w⟩ Q):EO X ops (o::r) ⟨t,h,n,w⟩ Q:=by
 obtain ⟨g,j,q,s,p,u⟩:=g;rw [zoj g (by rw [j];exact q) s p u A,j];exact k
theorem ig (cap sz b off:Nat):offA cap 0 sz ⟨b,off,none⟩=⟨b,off,none⟩:=by
 unfold offA;split
 ·rfl
 rw [wO];simp
theorem td {e:TypeId}{x:Operand}{z:Value}{j:Int}(m:Nat)(a:Za X ops t o d (o.op=.slice ty x none (some hi) none∧X.E.und ty=some (.slice e)∧X.E.inf e=some (sz,bt,z)∧evF t x=gS (some ⟨b,off,none⟩) len cap∧evF t hi=gZ ik j))(hm:j=(m:Int))(F:m≤cap)(k:EO X ops r ⟨upd t d (gS (some ⟨b,off,none⟩) m cap),h,n,w⟩ Q):EO X ops (o::r) ⟨t,h,n,w⟩ Q:=by
 obtain ⟨a,u,B,p,C,g,D,A⟩:=a;refine zS ⟨a,u,B,(by rw [p];rfl)⟩ ?_ k;rw [p];subst hm;show xc X.E ty (evF t x) none (some (evF t hi))=_;rw [D,A];have q:(0:Int)≤(m:Int)∧(m:Int)≤cap:=zo;have s:(gro b&&(Ag 1 0&&Ag cap 0))=false:=by cases gro b<;>rfl
 simp only [xc,C,g,bnd,eS q,A9,s,ig,C5]
theorem yM {sT:TypeId}{w':List Nat}{s x:Operand}(g:Za X ops t o d (o.op=.call {callee:=.builtin .append,args:=#[s,x],argTypes:=#[sT,xT]}∧(match X.E.und xT with|some (.int _)=>false|none=>false|_=>true)=true))(p:yW X.E h n sT (evF t s) (evF t x)=some (.val v h' n' w'))
  (k:EO X ops r ⟨upd t d v,h',n',addW X.n0 w' w⟩ Q):EO X ops (o::r) ⟨t,h,n,w⟩ Q:=by
 obtain ⟨g,hd,hn,j,a⟩:=g;have q:effF X.E o.op (evF t) h n=some (.val v h' n' w'):=by
  rw [j];show appF X.E [sT,xT] [evF t s,evF t x] h n=_;unfold appF;cases hu:X.E.und xT with
  |none=>rw [hu] at a;cases a
  |some u=>
   cases u with
   |int _=>rw [hu] at a;cases a
   |_=>simp only [hu];exact p
 rw [rS g (by rw [hd];exact hn) (by rw [j];rfl) q,hd];exact k
end
def argS (h:HF)(size:Nat)(v:Value)(m:Nat)(cs:List Value):Prop:=lenOf? v=some m∧yD h size m v=some cs
section
variable {h:HF}{sT:TypeId}{x:Value}
theorem append_nil (C:E.und sT=some (.slice e))(hi:E.inf e=some (size,bytes,z))(D:gP (zn z)=size)(u:1≤size)(A:1≤bytes)(hx:argS h size x m new)(hm:1≤m)(hb:m*bytes≤1099511627776):
  yW E h n sT (gS none 0 0) x=some (.val (gS (some ⟨3*n+1,0,none⟩) m m) (upd h (3*n+1) (some (.row new e))) (n+1) []):=by
 obtain ⟨B,hc⟩:=hx;have a:Ag (m*bytes) 1099511627776=true:=oo hb;have g:AD (gP (zn z)) size=true:=by rw [D];exact Cb _
 have j:Ag 1 size=true:=oo u;have p:Ag 1 bytes=true:=oo A;have q:Ag m 0=false:=by
  cases hb:Ag m 0 with
  |false=>rfl
  |true=>have:=tu hb;omega
 have s:yD h size 0 (gS none 0 0)=some []:=rfl;simp only [yW,C,hi,B,hc,sb,a,g,j,p,q,s,AV,zbf,Au]
theorem ue (J:E.und sT=some (.slice e))(hi:E.inf e=some (size,bytes,z))(K:gP (zn z)=size)(D:1≤size)(F:1≤bytes)(hx:argS h size x m new)(hm:1≤m)(hb:(len+m)*bytes≤1099511627776)
  (G:gro b=true)(g:h b=some (.row c e))(hc:gP c=len*size)(I:ones (c++new)=true)(hn:gP new=m*size):
  yW E h n sT (gS (some ⟨b,0,none⟩) len len) x=some (.val (gS (some ⟨3*n+1,0,none⟩) (len+m) (len+m)) (upd (upd h b none) (3*n+1) (some (.row (c++new) e))) (n+1) [b]):=by
 obtain ⟨H,a⟩:=hx;have j:Ag ((len+m)*bytes) 1099511627776=true:=oo hb;have p:AD (gP (zn z)) size=true:=by rw [K];exact Cb _
 have q:Ag 1 size=true:=oo D;have s:Ag 1 bytes=true:=oo F;have u:Ag (len+m) len=false:=by
  cases hb:Ag (len+m) len with
  |false=>rfl
  |true=>have:=tu hb;omega
 have A:yD h size len (gS (some ⟨b,0,none⟩) len len)=some c:=by
  simp only [yD];by_cases h0:len*size=0
  ·rw [eS h0];rw [h0] at hc;rw [vT.1 hc]
  rw [eP h0];have:Ag (0+len*size) (gP c)=true:=oo zo;simp only [tR,g,BF.cells,this,Cy,AV,Av];rw [pq zo]
 have B:jM h b (len*size) e=true:=by
  simp only [jM,g,hc,Cb,AV]
 have C:AD (gP (c++new)) ((len+m)*size)=true:=by
  rw [show gP (c++new)=(len+m)*size from by rw [k0,hc,hn,An]];exact Cb _
 simp only [yW,J,hi,H,a,j,p,q,s,u,A,B,C,AV,zbf,G,I,Cb,Cy]
end
section
variable {X:CtxF}{t:TF}{h:HF}{Q:SV→Prop}
theorem zci (x:Nat):Ai .u8 (x:Int)=((x%256:Nat):Int):=by
 simp only [Ai,Cj,BJ];simp
theorem jA (c:Za X ops t o d (o.op=.binOp .sub ty x y ty'∧evF t x=gZ .u8 (a:Int)∧evF t y=gZ .u8 (b:Int)))(f:b≤a∧a<256)
  (k:EO X ops r ⟨upd t d (gZ .u8 ((a-b:Nat):Int)),h,n,w⟩ Q):EO X ops (o::r) ⟨t,h,n,w⟩ Q:=by
 refine ZB c ?_ k;show some (gZ .u8 (Ai .u8 ((a:Int)-b)))=_;rw [show (a:Int)-b=((a-b:Nat):Int) from zo,zci,Ab zo]
theorem mE {D:TD}(c:Za X ops t o d (o.op=.convert ty e x∧evF t x=gZ ik (a:Int)∧X.E.und ty=some D∧X.E.und e=some (.int .u8)))
  (k:EO X ops r ⟨upd t d (gZ .u8 ((a%256:Nat):Int)),h,n,w⟩ Q):EO X ops (o::r) ⟨t,h,n,w⟩ Q:=by
 obtain ⟨c,g,j,l,f,m,i⟩:=c;refine wm ⟨c,g,j,l,(by rw [f];rfl),(by rw [f];rfl)⟩ ?_ k;rw [f];simp only [kZ,m,i,zci]
theorem rb (x:Nat):Ai .u32 (x:Int)=((x%4294967296:Nat):Int):=by
 simp only [Ai,Cj,BJ];simp
theorem xu (f:Za X ops t o d (o.op=.binOp .add ty x y ty'∧evF t x=gZ .u32 (a:Int)∧evF t y=gZ .u32 (b:Int)))(c:a+b<4294967296)
  (k:EO X ops r ⟨upd t d (gZ .u32 ((a+b:Nat):Int)),h,n,w⟩ Q):EO X ops (o::r) ⟨t,h,n,w⟩ Q:=by
 refine ZB f ?_ k;show some (gZ .u32 (Ai .u32 ((a:Int)+b)))=_;rw [show (a:Int)+b=((a+b:Nat):Int) from zo,rb,Ab c]
theorem zao (i:zh ops t o=true)(f:o.dst=some d)(g:zv X.nt (some d)=true)(c:o.op=.binOp .sub ty x y ty')(hx:evF t x=gZ .u32 (a:Int))(j:evF t y=gZ .u32 (b:Int))(l:b≤a∧a<4294967296)
  (k:EO X ops r ⟨upd t d (gZ .u32 ((a-b:Nat):Int)),h,n,w⟩ Q):EO X ops (o::r) ⟨t,h,n,w⟩ Q:=by
 refine zS ⟨i,f,g,(by rw [c];rfl)⟩ ?_ k;rw [c];show binE X.E .sub ty (evF t x) (evF t y)=_;rw [hx,j];show some (gZ .u32 (Ai .u32 ((a:Int)-b)))=_;rw [show (a:Int)-b=((a-b:Nat):Int) from zo,rb,Ab zo]
theorem xM (f:Za X ops t o d (o.op=.binOp .mul ty x y ty'∧evF t x=gZ .u32 (a:Int)∧evF t y=gZ .u32 (b:Int)))(c:a*b<4294967296)
  (k:EO X ops r ⟨upd t d (gZ .u32 ((a*b:Nat):Int)),h,n,w⟩ Q):EO X ops (o::r) ⟨t,h,n,w⟩ Q:=by
 refine ZB f ?_ k;show some (gZ .u32 (Ai .u32 ((a:Int)*b)))=_;rw [show (a:Int)*b=((a*b:Nat):Int) from by simp,rb,Ab c]
theorem wT (i:Za X ops t o d (o.op=.binOp .quo ty x y ty'∧evF t x=gZ .u32 (a:Int)∧evF t y=gZ .u32 (b:Int)))(g:b≠0∧a<4294967296)
  (k:EO X ops r ⟨upd t d (gZ .u32 ((a/b:Nat):Int)),h,n,w⟩ Q):EO X ops (o::r) ⟨t,h,n,w⟩ Q:=by
 refine ZB i ?_ k;have f:¬(b:Int)=0:=zo;have e:(a:Int).tdiv b=((a/b:Nat):Int):=rfl;have c:a/b<4294967296:=Aj (A3 _ _) g.2;simp only [binE,isSh,yC,intE,eP f,e,rb,Ab c]
theorem wR (f:Za X ops t o d (o.op=.binOp .rem ty x y ty'∧evF t x=gZ .u32 (a:Int)∧evF t y=gZ .u32 (b:Int)))(g:b≠0)
  (k:EO X ops r ⟨upd t d (gZ .u32 ((a%b:Nat):Int)),h,n,w⟩ Q):EO X ops (o::r) ⟨t,h,n,w⟩ Q:=by
 refine ZB f ?_ k;have c:¬(b:Int)=0:=zo;have e:(a:Int).tmod b=((a%b:Nat):Int):=rfl;simp only [binE,isSh,yC,intE,eP c,e]
theorem ft {D:TD}(l:zh ops t o=true)(c:o.dst=some d)(g:zv X.nt (some d)=true)(i:o.op=.convert ty e x)(hx:evF t x=gZ ik (a:Int))(j:X.E.und ty=some D)(f:X.E.und e=some (.int .u32))
  (k:EO X ops r ⟨upd t d (gZ .u32 ((a%4294967296:Nat):Int)),h,n,w⟩ Q):EO X ops (o::r) ⟨t,h,n,w⟩ Q:=by
 refine wm ⟨l,c,g,i,(by rw [hx];rfl),(by rw [hx];rfl)⟩ ?_ k;rw [hx];simp only [kZ,j,f,rb]
theorem xR (x:Nat):Ai .u64 (x:Int)=((x%18446744073709551616:Nat):Int):=by
 simp only [Ai,Cj,BJ];simp
theorem jr (x y:Nat)(hx:x<18446744073709551616)(c:y<18446744073709551616):Ai .u64 ((x:Int)-y)=(((x+18446744073709551616-y)%18446744073709551616:Nat):Int):=by
 simp only [Ai,Cj,BJ];simp;omega
theorem yT (f:Za X ops t o d (o.op=.binOp .add ty x y ty'∧evF t x=gZ .u64 (a:Int)∧evF t y=gZ .u64 (b:Int)))(c:a+b<18446744073709551616)
  (k:EO X ops r ⟨upd t d (gZ .u64 ((a+b:Nat):Int)),h,n,w⟩ Q):EO X ops (o::r) ⟨t,h,n,w⟩ Q:=by
 refine ZB f ?_ k;show some (gZ .u64 (Ai .u64 ((a:Int)+b)))=_;rw [show (a:Int)+b=((a+b:Nat):Int) from zo,xR,Ab c]
theorem uo (c:Za X ops t o d (o.op=.binOp .add ty x y ty'∧evF t x=gZ .u64 (a:Int)∧evF t y=gZ .u64 (b:Int)))
  (k:EO X ops r ⟨upd t d (gZ .u64 (((a+b)%18446744073709551616:Nat):Int)),h,n,w⟩ Q):EO X ops (o::r) ⟨t,h,n,w⟩ Q:=by
 refine ZB c ?_ k;show some (gZ .u64 (Ai .u64 ((a:Int)+b)))=_;rw [show (a:Int)+b=((a+b:Nat):Int) from zo,xR]
theorem ym (c:Za X ops t o d (o.op=.binOp .sub ty x y ty'∧evF t x=gZ .u64 (a:Int)∧evF t y=gZ .u64 (b:Int)))(f:b≤a∧a<18446744073709551616)
  (k:EO X ops r ⟨upd t d (gZ .u64 ((a-b:Nat):Int)),h,n,w⟩ Q):EO X ops (o::r) ⟨t,h,n,w⟩ Q:=by
 refine ZB c ?_ k;show some (gZ .u64 (Ai .u64 ((a:Int)-b)))=_;rw [show (a:Int)-b=((a-b:Nat):Int) from zo,xR,Ab zo]
theorem sd (f:Za X ops t o d (o.op=.binOp .sub ty x y ty'∧evF t x=gZ .u64 (a:Int)∧evF t y=gZ .u64 (b:Int)))(c:a<18446744073709551616∧b<18446744073709551616)
  (k:EO X ops r ⟨upd t d (gZ .u64 (((a+18446744073709551616-b)%18446744073709551616:Nat):Int)),h,n,w⟩ Q):EO X ops (o::r) ⟨t,h,n,w⟩ Q:=by
 refine ZB f ?_ k;show some (gZ .u64 (Ai .u64 ((a:Int)-b)))=_;rw [jr a b c.1 c.2]
theorem xt (f:Za X ops t o d (o.op=.binOp .mul ty x y ty'∧evF t x=gZ .u64 (a:Int)∧evF t y=gZ .u64 (b:Int)))(c:a*b<18446744073709551616)
  (k:EO X ops r ⟨upd t d (gZ .u64 ((a*b:Nat):Int)),h,n,w⟩ Q):EO X ops (o::r) ⟨t,h,n,w⟩ Q:=by
 refine ZB f ?_ k;show some (gZ .u64 (Ai .u64 ((a:Int)*b)))=_;rw [show (a:Int)*b=((a*b:Nat):Int) from by simp,xR,Ab c]
theorem wk (c:Za X ops t o d (o.op=.binOp .mul ty x y ty'∧evF t x=gZ .u64 (a:Int)∧evF t y=gZ .u64 (b:Int)))
  (k:EO X ops r ⟨upd t d (gZ .u64 (((a*b)%18446744073709551616:Nat):Int)),h,n,w⟩ Q):EO X ops (o::r) ⟨t,h,n,w⟩ Q:=by
 refine ZB c ?_ k;show some (gZ .u64 (Ai .u64 ((a:Int)*b)))=_;rw [show (a:Int)*b=((a*b:Nat):Int) from by simp,xR]
theorem xN (i:Za X ops t o d (o.op=.binOp .quo ty x y ty'∧evF t x=gZ .u64 (a:Int)∧evF t y=gZ .u64 (b:Int)))(g:b≠0∧a<18446744073709551616)
  (k:EO X ops r ⟨upd t d (gZ .u64 ((a/b:Nat):Int)),h,n,w⟩ Q):EO X ops (o::r) ⟨t,h,n,w⟩ Q:=by
 refine ZB i ?_ k;have f:¬(b:Int)=0:=zo;have e:(a:Int).tdiv b=((a/b:Nat):Int):=rfl;have c:a/b<18446744073709551616:=Aj (A3 _ _) g.2;simp only [binE,isSh,yC,intE,eP f,e,xR,Ab c]
theorem vO (f:Za X ops t o d (o.op=.binOp .rem ty x y ty'∧evF t x=gZ .u64 (a:Int)∧evF t y=gZ .u64 (b:Int)))(g:b≠0)
  (k:EO X ops r ⟨upd t d (gZ .u64 ((a%b:Nat):Int)),h,n,w⟩ Q):EO X ops (o::r) ⟨t,h,n,w⟩ Q:=by
 refine ZB f ?_ k;have c:¬(b:Int)=0:=zo;have e:(a:Int).tmod b=((a%b:Nat):Int):=rfl;simp only [binE,isSh,yC,intE,eP c,e]
theorem wG (l:Za X ops t o d (o.op=.binOp .or ty x y ty'∧evF t x=gZ .u64 (a:Int)∧evF t y=gZ .u64 (b:Int)))(g:a<18446744073709551616∧b<18446744073709551616)
  (k:EO X ops r ⟨upd t d (gZ .u64 ((a|||b:Nat):Int)),h,n,w⟩ Q):EO X ops (o::r) ⟨t,h,n,w⟩ Q:=by
 refine ZB l ?_ k;have i:(CL 64 (a:Int))=Co 64 a:=by simp
 have j:(CL 64 (b:Int))=Co 64 b:=by simp
 have c:(Co 64 a|||Co 64 b).toNat=a|||b:=by simp [Ab g.1,Ab g.2]
 have f:a|||b<18446744073709551616:=by
  rw [←c];exact (Co 64 a|||Co 64 b).isLt
 show some (gZ .u64 (Ai .u64 (((CL 64 (a:Int))|||(CL 64 (b:Int))).toNat:Int)))=_;rw [i,j,c,xR,Ab f]
theorem mF (q:zh ops t o=true)(m:o.dst=some d)(p:zv X.nt (some d)=true)(g:o.op=.binOp .and ty x y ty')(hx:evF t x=gZ .u64 (a:Int))(s:evF t y=gZ .u64 (b:Int))(i:a<18446744073709551616∧b<18446744073709551616)
  (k:EO X ops r ⟨upd t d (gZ .u64 ((a&&& b:Nat):Int)),h,n,w⟩ Q):EO X ops (o::r) ⟨t,h,n,w⟩ Q:=by
 refine zS ⟨q,m,p,(by rw [g];rfl)⟩ ?_ k;rw [g];show binE X.E .and ty (evF t x) (evF t y)=_;rw [hx,s];have j:(CL 64 (a:Int))=Co 64 a:=by simp
 have l:(CL 64 (b:Int))=Co 64 b:=by simp
 have c:(Co 64 a&&& Co 64 b).toNat=a&&& b:=by simp [Ab i.1,Ab i.2]
 have f:a&&& b<18446744073709551616:=by
  rw [←c];exact (Co 64 a&&& Co 64 b).isLt
 show some (gZ .u64 (Ai .u64 (((CL 64 (a:Int))&&& (CL 64 (b:Int))).toNat:Int)))=_;rw [j,l,c,xR,Ab f]
theorem xK {s:Nat}(f:Za X ops t o d (o.op=.binOp .shl ty x y ty'∧evF t x=gZ .u64 (a:Int)∧evF t y=gZ ik (s:Int)))(g:s≤64)
  (k:EO X ops r ⟨upd t d (gZ .u64 ((a*2^s%18446744073709551616:Nat):Int)),h,n,w⟩ Q):EO X ops (o::r) ⟨t,h,n,w⟩ Q:=by
 refine ZB f ?_ k;have c:¬(s:Int)<0:=zo;have e:min (s:Int).toNat (BJ .u64)=s:=by simp [BJ];omega
 simp only [binE,isSh,shE,eP c,e];rw [show (a:Int)*2^s=((a*2^s:Nat):Int) from by simp,xR]
theorem yn {s:Nat}(f:Za X ops t o d (o.op=.binOp .shr ty x y ty'∧evF t x=gZ .u64 (a:Int)∧evF t y=gZ ik (s:Int)))(g:s≤64)
  (k:EO X ops r ⟨upd t d (gZ .u64 ((a/2^s:Nat):Int)),h,n,w⟩ Q):EO X ops (o::r) ⟨t,h,n,w⟩ Q:=by
 refine ZB f ?_ k;have c:¬(s:Int)<0:=zo;have e:min (s:Int).toNat (BJ .u64)=s:=by simp [BJ];omega
 simp only [binE,isSh,shE,eP c,e];rw [Int.fdiv_eq_ediv_of_nonneg _ (Int.le_of_lt (Int.pow_pos zd)),show (2:Int)^s=((2^s:Nat):Int) from by simp];rfl
theorem fp {D:TD}(l:zh ops t o=true)(c:o.dst=some d)(g:zv X.nt (some d)=true)(i:o.op=.convert ty e x)(hx:evF t x=gZ ik (a:Int))(j:X.E.und ty=some D)(f:X.E.und e=some (.int .u64))
  (k:EO X ops r ⟨upd t d (gZ .u64 ((a%18446744073709551616:Nat):Int)),h,n,w⟩ Q):EO X ops (o::r) ⟨t,h,n,w⟩ Q:=by
 refine wm ⟨l,c,g,i,(by rw [hx];rfl),(by rw [hx];rfl)⟩ ?_ k;rw [hx];simp only [kZ,j,f,xR]
theorem jC {a b:Int}(c:Za X ops t o d (o.op=.binOp .lss ty x y ty'∧evF t x=gZ ik a∧evF t y=gZ ik b))(j:a<b)
  (k:EO X ops r ⟨upd t d (jx true),h,n,w⟩ Q):EO X ops (o::r) ⟨t,h,n,w⟩ Q:=by
 obtain ⟨c,f,g,i,l,m⟩:=c;refine lW ⟨c,f,g,i,l,m⟩ ?_;rw [eH j];exact k
theorem zc2 {a b:Int}(c:Za X ops t o d (o.op=.binOp .lss ty x y ty'∧evF t x=gZ ik a∧evF t y=gZ ik b))(j:¬(a<b))
  (k:EO X ops r ⟨upd t d (jx false),h,n,w⟩ Q):EO X ops (o::r) ⟨t,h,n,w⟩ Q:=by
 obtain ⟨c,f,g,i,l,m⟩:=c;refine lW ⟨c,f,g,i,l,m⟩ ?_;rw [cA j];exact k
theorem oa {a b:Int}(c:Za X ops t o d (o.op=.binOp .leq ty x y ty'∧evF t x=gZ ik a∧evF t y=gZ ik b))(j:a≤b)
  (k:EO X ops r ⟨upd t d (jx true),h,n,w⟩ Q):EO X ops (o::r) ⟨t,h,n,w⟩ Q:=by
 obtain ⟨c,f,g,i,l,m⟩:=c;refine zhc ⟨c,f,g,i,l,m⟩ ?_;rw [eH j];exact k
theorem mD {a b:Int}(c:Za X ops t o d (o.op=.binOp .leq ty x y ty'∧evF t x=gZ ik a∧evF t y=gZ ik b))(j:¬(a≤b))
  (k:EO X ops r ⟨upd t d (jx false),h,n,w⟩ Q):EO X ops (o::r) ⟨t,h,n,w⟩ Q:=by
 obtain ⟨c,f,g,i,l,m⟩:=c;refine zhc ⟨c,f,g,i,l,m⟩ ?_;rw [cA j];exact k
theorem zsc {a b:Int}(c:Za X ops t o d (o.op=.binOp .gtr ty x y ty'∧evF t x=gZ ik a∧evF t y=gZ ik b))(j:b<a)
  (k:EO X ops r ⟨upd t d (jx true),h,n,w⟩ Q):EO X ops (o::r) ⟨t,h,n,w⟩ Q:=by
 obtain ⟨c,f,g,i,l,m⟩:=c;refine zhd ⟨c,f,g,i,l,m⟩ ?_;rw [eH j];exact k
theorem zsd {a b:Int}(c:Za X ops t o d (o.op=.binOp .gtr ty x y ty'∧evF t x=gZ ik a∧evF t y=gZ ik b))(j:¬(b<a))
  (k:EO X ops r ⟨upd t d (jx false),h,n,w⟩ Q):EO X ops (o::r) ⟨t,h,n,w⟩ Q:=by
 obtain ⟨c,f,g,i,l,m⟩:=c;refine zhd ⟨c,f,g,i,l,m⟩ ?_;rw [cA j];exact k
theorem jD {a b:Int}(c:Za X ops t o d (o.op=.binOp .geq ty x y ty'∧evF t x=gZ ik a∧evF t y=gZ ik b))(j:b≤a)
  (k:EO X ops r ⟨upd t d (jx true),h,n,w⟩ Q):EO X ops (o::r) ⟨t,h,n,w⟩ Q:=by
 obtain ⟨c,f,g,i,l,m⟩:=c;refine zaq ⟨c,f,g,i,l,m⟩ ?_;rw [eH j];exact k
theorem zse {a b:Int}(c:Za X ops t o d (o.op=.binOp .geq ty x y ty'∧evF t x=gZ ik a∧evF t y=gZ ik b))(j:¬(b≤a))
  (k:EO X ops r ⟨upd t d (jx false),h,n,w⟩ Q):EO X ops (o::r) ⟨t,h,n,w⟩ Q:=by
 obtain ⟨c,f,g,i,l,m⟩:=c;refine zaq ⟨c,f,g,i,l,m⟩ ?_;rw [cA j];exact k
theorem zc3 {a b:Int}(c:Za X ops t o d (o.op=.binOp .eql ty x y ty'∧evF t x=gZ ik a∧evF t y=gZ ik b))(j:a=b)
  (k:EO X ops r ⟨upd t d (jx true),h,n,w⟩ Q):EO X ops (o::r) ⟨t,h,n,w⟩ Q:=by
 obtain ⟨c,f,g,i,l,m⟩:=c;refine zc5 ⟨c,f,g,i,l,m⟩ ?_;rw [eH j];exact k
theorem zc4 {a b:Int}(c:Za X ops t o d (o.op=.binOp .eql ty x y ty'∧evF t x=gZ ik a∧evF t y=gZ ik b))(j:¬(a=b))
  (k:EO X ops r ⟨upd t d (jx false),h,n,w⟩ Q):EO X ops (o::r) ⟨t,h,n,w⟩ Q:=by
 obtain ⟨c,f,g,i,l,m⟩:=c;refine zc5 ⟨c,f,g,i,l,m⟩ ?_;rw [cA j];exact k
theorem zsh {a b:Int}(c:Za X ops t o d (o.op=.binOp .neq ty x y ty'∧evF t x=gZ ik a∧evF t y=gZ ik b))(j:¬(a=b))
  (k:EO X ops r ⟨upd t d (jx true),h,n,w⟩ Q):EO X ops (o::r) ⟨t,h,n,w⟩ Q:=by
 obtain ⟨c,f,g,i,l,m⟩:=c;refine zsb ⟨c,f,g,i,l,m⟩ ?_;simp only [j,decide_true,decide_false,Dx,Df];exact k
theorem zsi {a b:Int}(c:Za X ops t o d (o.op=.binOp .neq ty x y ty'∧evF t x=gZ ik a∧evF t y=gZ ik b))(j:a=b)
  (k:EO X ops r ⟨upd t d (jx false),h,n,w⟩ Q):EO X ops (o::r) ⟨t,h,n,w⟩ Q:=by
 obtain ⟨c,f,g,i,l,m⟩:=c;refine zsb ⟨c,f,g,i,l,m⟩ ?_;simp only [j,decide_true,decide_false,Dx,Df];exact k
theorem vj {a:Int}{D:TD}(c:Za X ops t o d (o.op=.convert ty e x∧evF t x=gZ ik a∧X.E.und ty=some D∧X.E.und e=some (.int .i64)))(m: -9223372036854775808≤a∧a<9223372036854775808)
  (k:EO X ops r ⟨upd t d (gZ .i64 a),h,n,w⟩ Q):EO X ops (o::r) ⟨t,h,n,w⟩ Q:=by
 obtain ⟨c,g,j,l,f,p,i⟩:=c;refine wm ⟨c,g,j,l,(by rw [f];rfl),(by rw [f];rfl)⟩ ?_ k;rw [f];simp only [kZ,p,i,xj m]
end
def cutx {α:Type}(live:α→List (Nat×Value))(I:α→HF→Nat→List Nat→Prop)(Q:Ex→SV→Prop):Ex→SV→Prop
 | .normal,s=>∃a,tJ s.t (live a)∧I a s.h s.n s.w
 |e,s=>Q e s
theorem zA {g:α→List (Nat×Value)}{I:α→HF→Nat→List Nat→Prop}{Q:Ex→SV→Prop}{s:SV}(a:α)(j:tJ s.t (g a))(p:I a s.h s.n s.w):cutx g I Q .normal s:=⟨a,j,p⟩
theorem zfx {a:α→List (Nat×Value)}{I:α→HF→Nat→List Nat→Prop}{Q:Ex→SV→Prop}{s:SV}{i:Nat}:cutx a I Q (.exit i) s↔Q (.exit i) s:=Dm
theorem zi6 {a:α→List (Nat×Value)}{I:α→HF→Nat→List Nat→Prop}{Q:Ex→SV→Prop}{s:SV}:cutx a I Q .ret s↔Q .ret s:=Dm
theorem yj {X:CtxF}{a b:Code}{s:SV}{Q:Ex→SV→Prop}(g:α→List (Nat×Value))(I:α→HF→Nat→List Nat→Prop)(B:EC X a s (cutx g I (after X b Q)))(hb:∀z t h n w,I z h n w→EC X b ⟨gk t (g z),h,n,w⟩ Q):EC X a s (after X b Q):=by
 refine sW B fun e j p=>?_;cases e with
 |normal=>
  obtain ⟨z,q,A⟩:=p;have:=hb z j.t j.h j.n j.w A;rw [wU q] at this;exact this
 |exit i=>exact p
 |ret=>exact p
section
variable {X:CtxF}{t:TF}{h:HF}{Q:SV→Prop}
theorem fh {j:Int}(m:Nat)(a:Za X ops t o d (o.op=.slice ty x none (some hi) none∧X.E.und ty=some (.slice e)∧X.E.inf e=some (sz,bt,z)∧evF t x=gS none len cap∧evF t hi=gZ ik j∧j=(m:Int)))(G:m≤cap)(k:EO X ops r ⟨upd t d (gS none m cap),h,n,w⟩ Q):EO X ops (o::r) ⟨t,h,n,w⟩ Q:=by
 obtain ⟨a,s,C,p,D,g,F,A,B⟩:=a;refine zS ⟨a,s,C,(by rw [p];rfl)⟩ ?_ k;rw [p];subst B;show xc X.E ty (evF t x) none (some (evF t hi))=_;rw [F,A];have q:(0:Int)≤(m:Int)∧(m:Int)≤cap:=zo;simp only [xc,D,g,bnd,eS q,A9,C5]
end
def ED (X:CtxF)(ops l:List Oper)(ms:List Nat)(i:Nat)(d:DF)(Q:SV→Prop):Prop:=∃s',z0 X ops l ms i d=some s'∧Q s'
theorem zl {X:CtxF}{ops:Array Oper}{s:SV}{Q:Ex→SV→Prop}(ms:List Nat)(hm:xA ops.toList []=ms)(k:ED X ops.toList ops.toList ms 0 ⟨s,[],[],[]⟩ (Q .normal)):EC X (.region id ops true) s Q:=by
 obtain ⟨j,a,g⟩:=k;refine ⟨.normal,j,?_,g⟩;rw [xk];simp only [hm,a]
section
variable {X:CtxF}{t:TF}{h:HF}{ef:List (Nat×HF×List Nat)}{Q:SV→Prop}
theorem lz {s:SV}:ED X ops [] ms i ⟨s,al,ld,ef⟩ Q↔Q s:=by
 unfold ED;constructor
 ·rintro ⟨g,h,a⟩;unfold z0 at h;injection h with h;subst h;exact a
 exact fun h=>⟨s,by unfold z0;rfl,h⟩
theorem zfk (q:zh ops t o=false)(j:o.dst=some d)(p:zv X.nt (some d)=true)(k:ED X ops r ms (i+1) ⟨⟨upd t d undef,h,n,w⟩,al,ld,ef⟩ Q):ED X ops (o::r) (m::ms) i ⟨⟨t,h,n,w⟩,al,ld,ef⟩ Q:=by
 obtain ⟨s,a,g⟩:=k;refine ⟨s,?_,g⟩;unfold z0;simp only [q,xH,j,p,addW];exact a
theorem yQ (D:zh ops t o=true)(A:o.dst=some d)(B:zv X.nt (some d)=true)(a:(cls o.op==0||cls o.op==4)=true)(C:yy X.E o.op (evF t)=some v)(k:ED X ops r ms (i+1) ⟨⟨upd t d v,h,n,w⟩,al,ld,ef⟩ Q):ED X ops (o::r) (m::ms) i ⟨⟨t,h,n,w⟩,al,ld,ef⟩ Q:=by
 obtain ⟨F,q,s⟩:=k;refine ⟨F,?_,s⟩;unfold z0;simp only [D];unfold rL;have g:cls o.op≠1:=fun e=>by rw [e] at a;cases a
 have j:cls o.op≠2:=fun e=>by rw [e] at a;cases a
 have p:cls o.op≠3:=fun e=>by rw [e] at a;cases a
 split
 ·exact eN (by assumption) g
 ·exact eN (by assumption) j
 ·exact eN (by assumption) p
 simp only [C,xH,A,B,addW];exact q
theorem dr_I {a:Int}(g:Za X ops t o d ((cls o.op==0||cls o.op==4)=true∧yy X.E o.op (evF t)=some (gZ ik a)))(k:ED X ops r ms (i+1) ⟨⟨upd t d (gZ ik a),h,n,w⟩,al,ld,ef⟩ Q):ED X ops (o::r) (m::ms) i ⟨⟨t,h,n,w⟩,al,ld,ef⟩ Q:=by obtain ⟨g,p,q,j,s⟩:=g;exact yQ g p q j s k
theorem dr_B {a:Bool}(g:Za X ops t o d ((cls o.op==0||cls o.op==4)=true∧yy X.E o.op (evF t)=some (jx a)))(k:ED X ops r ms (i+1) ⟨⟨upd t d (jx a),h,n,w⟩,al,ld,ef⟩ Q):ED X ops (o::r) (m::ms) i ⟨⟨t,h,n,w⟩,al,ld,ef⟩ Q:=by obtain ⟨g,p,q,j,s⟩:=g;exact yQ g p q j s k
theorem dr_S {a:Option Addr}{c:Nat}(g:Za X ops t o d ((cls o.op==0||cls o.op==4)=true∧yy X.E o.op (evF t)=some (gS a l c)))(k:ED X ops r ms (i+1) ⟨⟨upd t d (gS a l c),h,n,w⟩,al,ld,ef⟩ Q):ED X ops (o::r) (m::ms) i ⟨⟨t,h,n,w⟩,al,ld,ef⟩ Q:=by obtain ⟨g,p,q,j,s⟩:=g;exact yQ g p q j s k
theorem dr_P (a:Za X ops t o d ((cls o.op==0||cls o.op==4)=true∧yy X.E o.op (evF t)=some (mo (some ⟨b,off,none⟩))))(k:ED X ops r ms (i+1) ⟨⟨upd t d (mo (some ⟨b,off,none⟩)),h,n,w⟩,al,ld,ef⟩ Q):ED X ops (o::r) (m::ms) i ⟨⟨t,h,n,w⟩,al,ld,ef⟩ Q:=by obtain ⟨a,j,p,g,q⟩:=a;exact yQ a j p g q k
theorem dr_T {s:ByteArray}(a:Za X ops t o d ((cls o.op==0||cls o.op==4)=true∧yy X.E o.op (evF t)=some (jy s)))(k:ED X ops r ms (i+1) ⟨⟨upd t d (jy s),h,n,w⟩,al,ld,ef⟩ Q):ED X ops (o::r) (m::ms) i ⟨⟨t,h,n,w⟩,al,ld,ef⟩ Q:=by obtain ⟨a,j,p,g,q⟩:=a;exact yQ a j p g q k
theorem dr_A {cs:Array Value}(a:Za X ops t o d ((cls o.op==0||cls o.op==4)=true∧yy X.E o.op (evF t)=some (.agg cs)))(k:ED X ops r ms (i+1) ⟨⟨upd t d (.agg cs),h,n,w⟩,al,ld,ef⟩ Q):ED X ops (o::r) (m::ms) i ⟨⟨t,h,n,w⟩,al,ld,ef⟩ Q:=by obtain ⟨a,j,p,g,q⟩:=a;exact yQ a j p g q k
theorem dr_U {cs:Array Value}(a:Za X ops t o d ((cls o.op==0||cls o.op==4)=true∧yy X.E o.op (evF t)=some (.tuple cs)))(k:ED X ops r ms (i+1) ⟨⟨upd t d (.tuple cs),h,n,w⟩,al,ld,ef⟩ Q):ED X ops (o::r) (m::ms) i ⟨⟨t,h,n,w⟩,al,ld,ef⟩ Q:=by obtain ⟨a,j,p,g,q⟩:=a;exact yQ a j p g q k
theorem zfo {a b:Int}(g:Za X ops t o d (o.op=.binOp .add ty x y ty'∧evF t x=gZ .i64 a∧evF t y=gZ .i64 b))(s: -9223372036854775808≤a+b∧a+b<9223372036854775808)
  (k:ED X ops r ms (i+1) ⟨⟨upd t d (gZ .i64 (a+b)),h,n,w⟩,al,ld,ef⟩ Q):ED X ops (o::r) (m::ms) i ⟨⟨t,h,n,w⟩,al,ld,ef⟩ Q:=by
 obtain ⟨g,p,q,j,A,B⟩:=g;refine yQ g p q (by rw [j];rfl) ?_ k;rw [j];show binE X.E .add ty (evF t x) (evF t y)=_;rw [A,B];show some (gZ .i64 (Ai .i64 (a+b)))=_;rw [xj s]
theorem zfj {a b:Int}(g:Za X ops t o d (o.op=.binOp .sub ty x y ty'∧evF t x=gZ .i64 a∧evF t y=gZ .i64 b))(s: -9223372036854775808≤a-b∧a-b<9223372036854775808)
  (k:ED X ops r ms (i+1) ⟨⟨upd t d (gZ .i64 (a-b)),h,n,w⟩,al,ld,ef⟩ Q):ED X ops (o::r) (m::ms) i ⟨⟨t,h,n,w⟩,al,ld,ef⟩ Q:=by
 obtain ⟨g,p,q,j,A,B⟩:=g;refine yQ g p q (by rw [j];rfl) ?_ k;rw [j];show binE X.E .sub ty (evF t x) (evF t y)=_;rw [A,B];show some (gZ .i64 (Ai .i64 (a-b)))=_;rw [xj s]
theorem yd {g:HF}(j:Za X ops t o d (o.op=.load ty x∧evF t x=mo (some ⟨b,off,none⟩)∧wn m ef i h=(u,g)))(H:yB X.E ty g ⟨b,off,none⟩=some v)(a:vC u b ef=true∧qn m b al=true)
  (k:ED X ops r ms (i+1) ⟨⟨upd t d v,h,n,w⟩,al,(i,b)::ld,ef⟩ Q):ED X ops (o::r) (m::ms) i ⟨⟨t,h,n,w⟩,al,ld,ef⟩ Q:=by
 obtain ⟨j,C,F,p,I,G⟩:=j;obtain ⟨a,q⟩:=a;obtain ⟨J,s,A⟩:=k;refine ⟨J,?_,A⟩;unfold z0;simp only [j];unfold rL;have B:cls o.op=1:=by rw [p];rfl
 have D:po X.E o.op (evF t) g=some (v,b):=by rw [p];simp only [po,I,H]
 simp only [B,G,D,a,q,AV,xH,C,F,addW];exact s
theorem zfn {a:Mk}(A:zh ops t o=true)(q:o.dst=some d)(s:zv X.nt (some d)=true)(p:cls o.op=2)(hm:mkE X.E o.op (evF t)=some a)
  (k:ED X ops r ms (i+1) ⟨⟨upd t d (a.val n),upd h (a.name n) (some (.row a.c a.e)),n+1,w⟩,(i,a.name n)::al,ld,ef⟩ Q):ED X ops (o::r) (m::ms) i ⟨⟨t,h,n,w⟩,al,ld,ef⟩ Q:=by
 obtain ⟨B,g,j⟩:=k;refine ⟨B,?_,j⟩;unfold z0;simp only [A];unfold rL;simp only [p,hm,mkF,xH,q,s,addW];exact g
theorem zkz {c:Nat}(p:zh ops t o=true)(g:o.dst=some d)(j:zv X.nt (some d)=true)(a:cls o.op=2)(hm:mkE X.E o.op (evF t)=some ⟨cs,e,false,some (l,c)⟩)
  (k:ED X ops r ms (i+1) ⟨⟨upd t d (gS (some ⟨3*n+2,0,none⟩) l c),upd h (3*n+2) (some (.row cs e)),n+1,w⟩,(i,3*n+2)::al,ld,ef⟩ Q):ED X ops (o::r) (m::ms) i ⟨⟨t,h,n,w⟩,al,ld,ef⟩ Q:=zfn p g j a hm k
theorem zql (p:zh ops t o=true)(g:o.dst=some d)(j:zv X.nt (some d)=true)(a:cls o.op=2)(hm:mkE X.E o.op (evF t)=some ⟨cs,e,false,none⟩)
  (k:ED X ops r ms (i+1) ⟨⟨upd t d (mo (some ⟨3*n+2,0,none⟩)),upd h (3*n+2) (some (.row cs e)),n+1,w⟩,(i,3*n+2)::al,ld,ef⟩ Q):ED X ops (o::r) (m::ms) i ⟨⟨t,h,n,w⟩,al,ld,ef⟩ Q:=zfn p g j a hm k
theorem mX (C:zh ops t o=true)(B:zv X.nt o.dst=true)(s:cls o.op=3)(A:effF X.E o.op (evF t) h n=some (.val v h' n' W))(a:xq m ef=true)(g:xJ m al=true)(h3:ya m W ld=true)(j:n≤n')
  (k:ED X ops r ms (i+1) ⟨⟨putF t o.dst v,h',n',addW X.n0 W w⟩,al,ld,(i,h,W)::ef⟩ Q):ED X ops (o::r) (m::ms) i ⟨⟨t,h,n,w⟩,al,ld,ef⟩ Q:=by
 obtain ⟨D,p,q⟩:=k;refine ⟨D,?_,q⟩;unfold z0;simp only [C];unfold rL;simp only [s,a,g,AV,mf,A,xH,B,h3,oo j];exact p
theorem wa (P:Value→HF→Nat→List Nat→Prop)(g:Za X ops t o d (cls o.op=3∧effF X.E o.op (evF t) h n=some (.enter f args)∧xq m ef=true∧xJ m al=true))(a:CF X.C f args h n P)
  (k:∀v h' n' W,P v h' n' W→ya m W ld=true∧n≤n'∧ED X ops r ms (i+1) ⟨⟨upd t d v,h',n',addW X.n0 W w⟩,al,ld,(i,h,W)::ef⟩ Q):ED X ops (o::r) (m::ms) i ⟨⟨t,h,n,w⟩,al,ld,ef⟩ Q:=by
 obtain ⟨g,G,I,F,H,p,q⟩:=g;obtain ⟨v,h',n',W,j,J⟩:=a;obtain ⟨s,A,K,B,D⟩:=k v h' n' W J;refine ⟨K,?_,D⟩;unfold z0;simp only [g];unfold rL;simp only [F,p,q,AV,mf,H,j,xH,G,I,s,oo A];exact B
theorem uT {a:Operand}(j:zh ops t o=true∧o.dst=none∧o.op=.store ty a x∧X.E.inf ty=some (sz,bt,z)∧evF t a=mo (some ⟨b,off,none⟩)∧zn (evF t x)=cs∧gP cs=sz∧ones cs=true)(hb:h b=some (.row c e))(F:off+sz≤gP c)(g:3*X.n0≤b)(s:xq m ef=true)(A:xJ m al=true)(B:ya m [b] ld=true)
  (k:ED X ops r ms (i+1) ⟨⟨t,upd h b (some (.row (zu c off cs) e)),n,w⟩,al,ld,(i,h,[b])::ef⟩ Q):ED X ops (o::r) (m::ms) i ⟨⟨t,h,n,w⟩,al,ld,ef⟩ Q:=by
 obtain ⟨j,p,q,hi,D,H,G,C⟩:=j;subst H;refine mX j (by rw [p];rfl) (by rw [q];rfl) (by rw [q];exact xn hi D G C hb F) s A B eU ?_;rw [p,wD g];exact k
theorem iV {s:Operand}(B:zh ops t o=true)(hd:o.dst=some d)(hn:zv X.nt (some d)=true)(a:o.op=.call {callee:=.builtin .append,args:=#[s,x],argTypes:=#[sT,xT]})(hx:(match X.E.und xT with|some (.int _)=>false|none=>false|_=>true)=true)(q:yW X.E h n sT (evF t s) (evF t x)=some (.val v h' n' W))(g:xq m ef=true)(j:xJ m al=true)(h3:ya m W ld=true)(p:n≤n')
  (k:ED X ops r ms (i+1) ⟨⟨upd t d v,h',n',addW X.n0 W w⟩,al,ld,(i,h,W)::ef⟩ Q):ED X ops (o::r) (m::ms) i ⟨⟨t,h,n,w⟩,al,ld,ef⟩ Q:=by
 have A:effF X.E o.op (evF t) h n=some (.val v h' n' W):=by
  rw [a];show appF X.E [sT,xT] [evF t s,evF t x] h n=_;unfold appF;cases hu:X.E.und xT with
  |none=>rw [hu] at hx;cases hx
  |some u=>
   cases u with
   |int _=>rw [hu] at hx;cases hx
   |_=>simp only [hu];exact q
 refine mX B (by rw [hd];exact hn) (by rw [a];rfl) A g j h3 p ?_;rw [hd];exact k
end
section
variable {X:CtxF}{t:TF}{h:HF}{ef:List (Nat×HF×List Nat)}{Q:SV→Prop}
theorem zpo {a b:Int}(c:o.op=.binOp .lss ty x y ty')(hx:evF t x=gZ ik a)(g:evF t y=gZ ik b):yy E o.op (evF t)=some (jx (decide (a<b))):=by
 rw [c];show binE E .lss ty (evF t x) (evF t y)=_;rw [hx,g];simp only [binE,isSh,yC,intE,zaf]

theorem zk0 {a b:Int}(c:Za X ops t o d (o.op=.binOp .lss ty x y ty'∧evF t x=gZ ik a∧evF t y=gZ ik b))(p:a<b)
  (k:ED X ops r ms (i+1) ⟨⟨upd t d (jx true),h,n,w⟩,al,ld,ef⟩ Q):ED X ops (o::r) (m::ms) i ⟨⟨t,h,n,w⟩,al,ld,ef⟩ Q:=by obtain ⟨c,j,l,g,q,s⟩:=c;exact yQ c j l (by rw [g];rfl) (by rw [zpo g q s,eH p]) k
theorem zk1 {a b:Int}(c:Za X ops t o d (o.op=.binOp .lss ty x y ty'∧evF t x=gZ ik a∧evF t y=gZ ik b))(p:¬(a<b))
  (k:ED X ops r ms (i+1) ⟨⟨upd t d (jx false),h,n,w⟩,al,ld,ef⟩ Q):ED X ops (o::r) (m::ms) i ⟨⟨t,h,n,w⟩,al,ld,ef⟩ Q:=by obtain ⟨c,j,l,g,q,s⟩:=c;exact yQ c j l (by rw [g];rfl) (by rw [zpo g q s,cA p]) k
theorem zpp {a b:Int}(c:o.op=.binOp .leq ty x y ty')(hx:evF t x=gZ ik a)(g:evF t y=gZ ik b):yy E o.op (evF t)=some (jx (decide (a≤b))):=by
 rw [c];show binE E .leq ty (evF t x) (evF t y)=_;rw [hx,g];simp only [binE,isSh,yC,intE,gF]

theorem zk2 {a b:Int}(c:Za X ops t o d (o.op=.binOp .leq ty x y ty'∧evF t x=gZ ik a∧evF t y=gZ ik b))(p:a≤b)
  (k:ED X ops r ms (i+1) ⟨⟨upd t d (jx true),h,n,w⟩,al,ld,ef⟩ Q):ED X ops (o::r) (m::ms) i ⟨⟨t,h,n,w⟩,al,ld,ef⟩ Q:=by obtain ⟨c,j,l,g,q,s⟩:=c;exact yQ c j l (by rw [g];rfl) (by rw [zpp g q s,eH p]) k
theorem zk3 {a b:Int}(c:Za X ops t o d (o.op=.binOp .leq ty x y ty'∧evF t x=gZ ik a∧evF t y=gZ ik b))(p:¬(a≤b))
  (k:ED X ops r ms (i+1) ⟨⟨upd t d (jx false),h,n,w⟩,al,ld,ef⟩ Q):ED X ops (o::r) (m::ms) i ⟨⟨t,h,n,w⟩,al,ld,ef⟩ Q:=by obtain ⟨c,j,l,g,q,s⟩:=c;exact yQ c j l (by rw [g];rfl) (by rw [zpp g q s,cA p]) k
theorem zpq {a b:Int}(c:o.op=.binOp .gtr ty x y ty')(hx:evF t x=gZ ik a)(g:evF t y=gZ ik b):yy E o.op (evF t)=some (jx (decide (b<a))):=by
 rw [c];show binE E .gtr ty (evF t x) (evF t y)=_;rw [hx,g];simp only [binE,isSh,yC,intE,zaf]

theorem zk4 {a b:Int}(c:Za X ops t o d (o.op=.binOp .gtr ty x y ty'∧evF t x=gZ ik a∧evF t y=gZ ik b))(p:b<a)
  (k:ED X ops r ms (i+1) ⟨⟨upd t d (jx true),h,n,w⟩,al,ld,ef⟩ Q):ED X ops (o::r) (m::ms) i ⟨⟨t,h,n,w⟩,al,ld,ef⟩ Q:=by obtain ⟨c,j,l,g,q,s⟩:=c;exact yQ c j l (by rw [g];rfl) (by rw [zpq g q s,eH p]) k
theorem zk5 {a b:Int}(c:Za X ops t o d (o.op=.binOp .gtr ty x y ty'∧evF t x=gZ ik a∧evF t y=gZ ik b))(p:¬(b<a))
  (k:ED X ops r ms (i+1) ⟨⟨upd t d (jx false),h,n,w⟩,al,ld,ef⟩ Q):ED X ops (o::r) (m::ms) i ⟨⟨t,h,n,w⟩,al,ld,ef⟩ Q:=by obtain ⟨c,j,l,g,q,s⟩:=c;exact yQ c j l (by rw [g];rfl) (by rw [zpq g q s,cA p]) k
theorem zpr {a b:Int}(c:o.op=.binOp .geq ty x y ty')(hx:evF t x=gZ ik a)(g:evF t y=gZ ik b):yy E o.op (evF t)=some (jx (decide (b≤a))):=by
 rw [c];show binE E .geq ty (evF t x) (evF t y)=_;rw [hx,g];simp only [binE,isSh,yC,intE,gF]

theorem zk6 {a b:Int}(c:Za X ops t o d (o.op=.binOp .geq ty x y ty'∧evF t x=gZ ik a∧evF t y=gZ ik b))(p:b≤a)
  (k:ED X ops r ms (i+1) ⟨⟨upd t d (jx true),h,n,w⟩,al,ld,ef⟩ Q):ED X ops (o::r) (m::ms) i ⟨⟨t,h,n,w⟩,al,ld,ef⟩ Q:=by obtain ⟨c,j,l,g,q,s⟩:=c;exact yQ c j l (by rw [g];rfl) (by rw [zpr g q s,eH p]) k
theorem zk7 {a b:Int}(c:Za X ops t o d (o.op=.binOp .geq ty x y ty'∧evF t x=gZ ik a∧evF t y=gZ ik b))(p:¬(b≤a))
  (k:ED X ops r ms (i+1) ⟨⟨upd t d (jx false),h,n,w⟩,al,ld,ef⟩ Q):ED X ops (o::r) (m::ms) i ⟨⟨t,h,n,w⟩,al,ld,ef⟩ Q:=by obtain ⟨c,j,l,g,q,s⟩:=c;exact yQ c j l (by rw [g];rfl) (by rw [zpr g q s,cA p]) k
theorem zps {a b:Int}(c:o.op=.binOp .eql ty x y ty')(hx:evF t x=gZ ik a)(g:evF t y=gZ ik b):yy E o.op (evF t)=some (jx (decide (a=b))):=by
 rw [c];show binE E .eql ty (evF t x) (evF t y)=_;rw [hx,g];simp only [binE,isSh,yC,intE,gG];rfl
theorem zk8 {a b:Int}(c:Za X ops t o d (o.op=.binOp .eql ty x y ty'∧evF t x=gZ ik a∧evF t y=gZ ik b))(p:a=b)
  (k:ED X ops r ms (i+1) ⟨⟨upd t d (jx true),h,n,w⟩,al,ld,ef⟩ Q):ED X ops (o::r) (m::ms) i ⟨⟨t,h,n,w⟩,al,ld,ef⟩ Q:=by obtain ⟨c,j,l,g,q,s⟩:=c;exact yQ c j l (by rw [g];rfl) (by rw [zps g q s,eH p]) k
theorem zk9 {a b:Int}(c:Za X ops t o d (o.op=.binOp .eql ty x y ty'∧evF t x=gZ ik a∧evF t y=gZ ik b))(p:¬(a=b))
  (k:ED X ops r ms (i+1) ⟨⟨upd t d (jx false),h,n,w⟩,al,ld,ef⟩ Q):ED X ops (o::r) (m::ms) i ⟨⟨t,h,n,w⟩,al,ld,ef⟩ Q:=by obtain ⟨c,j,l,g,q,s⟩:=c;exact yQ c j l (by rw [g];rfl) (by rw [zps g q s,cA p]) k
theorem zj9 {a b:Int}(c:o.op=.binOp .neq ty x y ty')(hx:evF t x=gZ ik a)(g:evF t y=gZ ik b):yy E o.op (evF t)=some (jx (!decide (a=b))):=by
 rw [c];show binE E .neq ty (evF t x) (evF t y)=_;rw [hx,g];simp only [binE,isSh,yC,intE,gG];rfl
theorem zfl {a b:Int}(c:Za X ops t o d (o.op=.binOp .neq ty x y ty'∧evF t x=gZ ik a∧evF t y=gZ ik b))(p:¬(a=b))
  (k:ED X ops r ms (i+1) ⟨⟨upd t d (jx true),h,n,w⟩,al,ld,ef⟩ Q):ED X ops (o::r) (m::ms) i ⟨⟨t,h,n,w⟩,al,ld,ef⟩ Q:=by obtain ⟨c,j,l,g,q,s⟩:=c;exact yQ c j l (by rw [g];rfl) (by rw [zj9 g q s];simp [p]) k
theorem zfm {a b:Int}(c:Za X ops t o d (o.op=.binOp .neq ty x y ty'∧evF t x=gZ ik a∧evF t y=gZ ik b))(p:a=b)
  (k:ED X ops r ms (i+1) ⟨⟨upd t d (jx false),h,n,w⟩,al,ld,ef⟩ Q):ED X ops (o::r) (m::ms) i ⟨⟨t,h,n,w⟩,al,ld,ef⟩ Q:=by obtain ⟨c,j,l,g,q,s⟩:=c;exact yQ c j l (by rw [g];rfl) (by rw [zj9 g q s];simp [p]) k
theorem bO {c:Operand}{j:Int}(a:Za X ops t o d (o.op=.indexAddr ty x c∧X.E.und ty=some (.slice e)∧X.E.inf e=some (sz,bt,z)∧evF t x=gS (some ⟨b,off,none⟩) len cap∧evF t c=gZ ik j))(u:0≤j∧j<len)(k:ED X ops r ms (i+1) ⟨⟨upd t d (mo (some ⟨b,off+j.toNat*sz,none⟩)),h,n,w⟩,al,ld,ef⟩ Q):ED X ops (o::r) (m::ms) i ⟨⟨t,h,n,w⟩,al,ld,ef⟩ Q:=by
 obtain ⟨a,l,s,g,v,p,A,q⟩:=a;refine yQ a l s (by rw [g];rfl) ?_ k;rw [g];show yV X.E ty (evF t x) (evF t c)=_;rw [A,q];simp only [yV,v,p,eS u,wO]
theorem sj:∀{l:List (Nat×Nat)},ya m [] l=true:=by
 intro l;induction l with
 |nil=>rfl
 |cons x l ih=>
  obtain ⟨i,b⟩:=x;unfold ya;rw [show memN b []=false from rfl,Df,GJ];exact ih
theorem ziw (P:Value→Prop)(g:Za X ops t o d (cls o.op=3∧effF X.E o.op (evF t) h n=some (.enter f args)∧xq m ef=true∧xJ m al=true))(a:CF X.C f args h n fun v j l w=>j=h∧l=n∧w=[]∧P v)
  (k:∀v,P v→ED X ops r ms (i+1) ⟨⟨upd t d v,h,n,w⟩,al,ld,(i,h,[])::ef⟩ Q):ED X ops (o::r) (m::ms) i ⟨⟨t,h,n,w⟩,al,ld,ef⟩ Q:=by
 obtain ⟨g,u,B,s,A,p,q⟩:=g;refine wa _ ⟨g,u,B,s,A,p,q⟩ a fun v j l W c=>?_;obtain ⟨rfl,rfl,rfl,c⟩:=c;exact ⟨sj,eU,k v c⟩
end
theorem NV:(∀(X:CtxF) (s:SV) (Q:Ex→SV→Prop) (a b:Code),EC X (.seq a b) s Q↔EC X a s (after X b Q))∧(∀(X:CtxF) (s:SV) (Q:Ex→SV→Prop) (i:Nat) (o:Array Oper),EC X (.region i o false) s Q↔EO X o.toList o.toList s (Q .normal))∧(∀(X:CtxF) (s:SV) (Q:Ex→SV→Prop) (i:Nat) (b:Code),EC X (.block i b) s Q↔EC X b s (pp i Q))∧(∀(X:CtxF) (s:SV) (Q:Ex→SV→Prop) (c:Code),EC X (.scope c) s Q↔EC X c s Q)∧(∀(X:CtxF) (s:SV) (Q:Ex→SV→Prop),EC X .skip s Q↔Q .normal s)∧(∀(X:CtxF) (s:SV) (Q:Ex→SV→Prop) (i:Nat),EC X (.exit i) s Q↔Q (.exit i) s)∧(∀(X:CtxF) (s:SV) (Q:Ex→SV→Prop),EC X .ret s Q↔Q .ret s)∧(∀(X:CtxF) (s:SV) (Q:Ex→SV→Prop) (l:Nat),EC X (.label l) s Q↔Q .normal s)∧
  (∀(X:CtxF) (o:List Oper) (s:SV) (Q:SV→Prop),EO X o [] s Q↔Q s)∧(∀(X:CtxF) (o:List Oper) (ms:List Nat) (i:Nat) (s:SV) (al ld:List (Nat×Nat)) (ef:List (Nat×HF×List Nat)) (Q:SV→Prop),ED X o [] ms i ⟨s,al,ld,ef⟩ Q↔Q s)∧(∀(X:CtxF) (s:SV) (Q:Ex→SV→Prop) (b:Code),after X b Q .normal s↔EC X b s Q)∧(∀(X:CtxF) (s:SV) (Q:Ex→SV→Prop) (b:Code) (i:Nat),after X b Q (.exit i) s↔Q (.exit i) s)∧(∀(X:CtxF) (s:SV) (Q:Ex→SV→Prop) (b:Code),after X b Q .ret s↔Q .ret s)∧
  (∀(s:SV) (Q:Ex→SV→Prop) (i:Nat),pp i Q .normal s↔Q .normal s)∧(∀(s:SV) (Q:Ex→SV→Prop) (i j:Nat),pp i Q (.exit j) s↔if j=i then Q .normal s else Q (.exit j) s)∧(∀(s:SV) (Q:Ex→SV→Prop) (i:Nat),pp i Q .ret s↔Q .ret s)∧(∀(α:Type) (l:α→List (Nat×Value)) (I:α→HF→Nat→List Nat→Prop) (μ:α→Nat) (a:α) (Q:Ex→SV→Prop) (s:SV) (i:Nat),qY l I μ a Q (.exit i) s↔Q (.exit i) s)∧(∀(α:Type) (l:α→List (Nat×Value)) (I:α→HF→Nat→List Nat→Prop) (μ:α→Nat) (a:α) (Q:Ex→SV→Prop) (s:SV),qY l I μ a Q .ret s↔Q .ret s)∧
  (∀(l:List (Nat×Value)) (I:HF→Nat→List Nat→Prop) (Q:Ex→SV→Prop) (s:SV) (i:Nat),cut l I Q (.exit i) s↔Q (.exit i) s)∧(∀(l:List (Nat×Value)) (I:HF→Nat→List Nat→Prop) (Q:Ex→SV→Prop) (s:SV),cut l I Q .ret s↔Q .ret s)∧(∀(α:Type) (l:α→List (Nat×Value)) (I:α→HF→Nat→List Nat→Prop) (Q:Ex→SV→Prop) (s:SV) (i:Nat),cutx l I Q (.exit i) s↔Q (.exit i) s)∧(∀(α:Type) (l:α→List (Nat×Value)) (I:α→HF→Nat→List Nat→Prop) (Q:Ex→SV→Prop) (s:SV),cutx l I Q .ret s↔Q .ret s)∧(∀(α:Sort 1) [Decidable True] (a b:α),(if True then a else b)=a)∧(∀(α:Sort 1) [Decidable False] (a b:α),(if False then a else b)=b)∧(∀(a b:Prop) [Decidable True],(if True then a else b)=a)∧(∀(a b:Prop) [Decidable False],(if False then a else b)=b)∧((1:Nat)=0↔False)∧((0:Nat)=1↔False):=
 ⟨fun _ _ _ _ _=>yY,fun _ _ _ _ _=>ug,fun _ _ _ _ _=>zjs,fun _ _ _ _=>zjq,fun _ _ _=>yu,fun _ _ _ _=>zom,fun _ _ _=>zq9,fun _ _ _ _=>zjr,fun _ _ _ _=>xg,fun _ _ _ _ _ _ _ _ _=>lz,fun _ _ _ _=>zK,fun _ _ _ _ _=>zce,fun _ _ _ _=>zgn,fun _ _ _=>iG,fun _ _ _ _=>zbc,fun _ _ _=>zej,fun _ _ _ _ _ _ _ _=>er,fun _ _ _ _ _ _ _=>zbh,fun _ _ _ _ _=>zi7,fun _ _ _ _=>zn0,fun _ _ _ _ _ _=>zfx,fun _ _ _ _ _=>zi6,fun _ _ _ _=>eS trivial,fun _ _ _ _=>eP id,fun _ _ _=>eS trivial,fun _ _ _=>eP id,iff_false_intro Nat.one_ne_zero,iff_false_intro Nat.zero_ne_one⟩
theorem zN {p q:Prop}(k:q)(e:q→p:=by intro k;simp only [NV,Nat.reduceEqDiff,reduceCtorEq];exact k):p:=e k
section
variable {X:CtxF}{t:TF}{h:HF}{Q:SV→Prop}
theorem zR (k:EO X ops r ⟨upd t d v,h,n,w⟩ Q)(f:EO X ops r ⟨upd t d v,h,n,w⟩ Q→EO X ops (o::r) ⟨t,h,n,w⟩ Q:=by first|exact jC R6 zo|exact zc2 R6 zo|exact oa R6 zo|exact mD R6 zo|exact zsc R6 zo|exact zsd R6 zo|exact jD R6 zo|exact zse R6 zo|exact zc3 R6 zo|exact zc4 R6 zo|exact zsh R6 zo|exact zsi R6 zo|exact lW R6|exact zhc R6|exact zhd R6|exact zaq R6|exact zc5 R6|exact zsb R6|exact uI R6 zo|exact qO R6 zo|exact st_I R5|exact st_B R5|exact st_S R5|exact st_P R5|exact st_T R5|exact st_A R5|exact st_U R5|exact zS (v:=.pointer none) R4 rfl|exact zsa R3):EO X ops (o::r) ⟨t,h,n,w⟩ Q:=f k
theorem zM (k:EO X ops r ⟨upd t d v,h,n,w⟩ Q)(f:EO X ops r ⟨upd t d v,h,n,w⟩ Q→EO X ops (o::r) ⟨t,h,n,w⟩ Q:=by first|exact st_I R5|exact st_B R5|exact st_S R5|exact st_P R5|exact st_T R5|exact st_A R5|exact st_U R5|exact zS (v:=.pointer none) R4 rfl|exact zsa R3):EO X ops (o::r) ⟨t,h,n,w⟩ Q:=f k
end
section
variable {X:CtxF}{t:TF}{h:HF}{ef:List (Nat×HF×List Nat)}{Q:SV→Prop}
theorem zD (k:ED X ops r ms (i+1) ⟨⟨upd t d v,h,n,w⟩,al,ld,ef⟩ Q)(f:ED X ops r ms (i+1) ⟨⟨upd t d v,h,n,w⟩,al,ld,ef⟩ Q→ED X ops (o::r) (m::ms) i ⟨⟨t,h,n,w⟩,al,ld,ef⟩ Q:=by first|exact zk0 R6 zo|exact zk1 R6 zo|exact zk2 R6 zo|exact zk3 R6 zo|exact zk4 R6 zo|exact zk5 R6 zo|exact zk6 R6 zo|exact zk7 R6 zo|exact zk8 R6 zo|exact zk9 R6 zo|exact zfl R6 zo|exact zfm R6 zo|exact zfo R6 zo|exact zfj R6 zo|exact dr_I R5|exact dr_B R5|exact dr_S R5|exact dr_P R5|exact dr_T R5|exact dr_A R5|exact dr_U R5|exact zfk rfl rfl rfl):ED X ops (o::r) (m::ms) i ⟨⟨t,h,n,w⟩,al,ld,ef⟩ Q:=f k
theorem zE (k:ED X ops r ms (i+1) ⟨⟨upd t d v,h,n,w⟩,al,ld,ef⟩ Q)(f:ED X ops r ms (i+1) ⟨⟨upd t d v,h,n,w⟩,al,ld,ef⟩ Q→ED X ops (o::r) (m::ms) i ⟨⟨t,h,n,w⟩,al,ld,ef⟩ Q:=by first|exact zfo R6 zo|exact zfj R6 zo|exact dr_I R5|exact dr_B R5|exact dr_S R5|exact dr_P R5|exact dr_T R5|exact dr_A R5|exact dr_U R5|exact zfk rfl rfl rfl):ED X ops (o::r) (m::ms) i ⟨⟨t,h,n,w⟩,al,ld,ef⟩ Q:=f k
end
theorem zAA {p q:Prop}(k:q)(e:q→p:=by intro k;repeat (first|refine zR ?_|refine zN ?_|refine (ze rfl).mpr ?_|refine (za rfl).mpr ?_);exact k):p:=e k
structure ZH (q:Prop):Prop where go:q
theorem Zb {p q:Prop}(k:q)(e:ZH q→p:=by intro k;(repeat refine zR ?_);refine zN ?_;exact k.go):p:=e ⟨k⟩
theorem Zc {p q:Prop}(k:q)(e:ZH q→p:=by intro k;refine zM ?_;refine zM ?_;exact k.go):p:=e ⟨k⟩
theorem Zd {p q:Prop}(k:q)(e:ZH q→p:=by intro k;refine zN ?_;refine Zb ?_;exact k.go):p:=e ⟨k⟩
theorem Ze {p q:Prop}(k:q)(e:ZH q→p:=by intro k;refine zN ?_;refine zM ?_;exact k.go):p:=e ⟨k⟩
theorem Zg {p q:Prop}(k:q)(e:ZH q→p:=by intro k;refine Zb ?_;rw [za rfl];exact k.go):p:=e ⟨k⟩
theorem Zh {p q:Prop}(k:q)(e:ZH q→p:=by intro k;refine Zb ?_;rw [ze rfl];exact k.go):p:=e ⟨k⟩
theorem Zj {p q:Prop}(k:q)(e:ZH q→p:=by intro k;refine zN ?_;(repeat refine zR ?_);exact k.go):p:=e ⟨k⟩
theorem Zk {p q:Prop}(k:q)(e:ZH q→p:=by intro k;refine zM ?_;refine zN ?_;exact k.go):p:=e ⟨k⟩
theorem Zl {p q:Prop}(k:q)(e:ZH q→p:=by intro k;refine Zg ?_;refine zN ?_;exact k.go):p:=e ⟨k⟩
theorem Zm {p q:Prop}(k:q)(e:ZH q→p:=by intro k;refine Zb ?_;(repeat refine zR ?_);exact k.go):p:=e ⟨k⟩
theorem Zn {p q:Prop}(k:q)(e:ZH q→p:=by intro k;refine zN ?_;refine Zc ?_;exact k.go):p:=e ⟨k⟩
theorem Zo {p q:Prop}(k:q)(e:ZH q→p:=by intro k;refine Zb ?_;refine Zb ?_;exact k.go):p:=e ⟨k⟩
theorem Zp {p q:Prop}(k:q)(e:ZH q→p:=by intro k;refine Zg ?_;refine Zd ?_;exact k.go):p:=e ⟨k⟩
theorem Zq {p q:Prop}(k:q)(e:ZH q→p:=by intro k;refine Zh ?_;refine Zd ?_;exact k.go):p:=e ⟨k⟩
theorem Zr {p q:Prop}(k:q)(e:ZH q→p:=by intro k;refine Zh ?_;refine Zj ?_;exact k.go):p:=e ⟨k⟩
theorem Zs {p q:Prop}(k:q)(e:ZH q→p:=by intro k;refine zM ?_;refine Ze ?_;exact k.go):p:=e ⟨k⟩
theorem Zt {p q:Prop}(k:q)(e:ZH q→p:=by intro k;refine Zh ?_;refine zN ?_;exact k.go):p:=e ⟨k⟩
theorem Zu {p q:Prop}(k:q)(e:ZH q→p:=by intro k;refine Zb ?_;refine Zc ?_;exact k.go):p:=e ⟨k⟩
theorem Zv {p q:Prop}(k:q)(e:ZH q→p:=by intro k;refine Zc ?_;refine zR ?_;exact k.go):p:=e ⟨k⟩
theorem Zw {p q:Prop}(k:q)(e:ZH q→p:=by intro k;refine Zd ?_;refine Zb ?_;exact k.go):p:=e ⟨k⟩
theorem Zx {p q:Prop}(k:q)(e:ZH q→p:=by intro k;refine Zh ?_;refine Zn ?_;exact k.go):p:=e ⟨k⟩
theorem Zy {p q:Prop}(k:q)(e:ZH q→p:=by intro k;refine Zd ?_;(repeat refine zR ?_);exact k.go):p:=e ⟨k⟩
theorem Zz {p q:Prop}(k:q)(e:ZH q→p:=by intro k;refine Zg ?_;refine Ze ?_;exact k.go):p:=e ⟨k⟩
theorem ZA {p q:Prop}(k:q)(e:ZH q→p:=by intro k;refine Zc ?_;refine zM ?_;exact k.go):p:=e ⟨k⟩
end Go.GL
namespace Go.Proofs.YtepkmadmigkgmaaGreatDoor
open Go Go.GL
variable {ops r:List Oper}{n bytes size cap off bt lo m' n' n0 sz c' id b k m B P V j a d:Nat}{w W A C:List Nat}{o o2:Oper}{body:Code}{args new cs c:List Value}{fn:Func}{e' ty xT e2 e3 e:TypeId}{α:Type}{ik:IntKind}{ji:Int}{f:FuncId}{v z:Value}{x y:Operand}{E:Env}
variable {sT:TypeId}{h' h:HF}
def rI:Ex→Bool| .exit _=>false|_=>true
noncomputable def ctx (k n nt:Nat):CtxF:={E:=env,C:=cal k,L:=LL,round:=none,n0:=n,nt:=nt}
theorem jn {h:HF}{n:Nat}{P:Value→HF→Nat→List Nat→Prop}(y:GK.orc f args=none)(l:env.fn f=some fn)(hb:fn.body=some body)(p:Ag (gP args) fn.ntmps=true)
  (hx:EC (ctx k n fn.ntmps) body ⟨mj args,h,n,[]⟩ fun e s=>rI e=true∧∃a,resF env s fn.results.toList=some a∧P (endF env f h n s a).1 (endF env f h n s a).2.1 (endF env f h n s a).2.2.1 (endF env f h n s a).2.2.2):CF (cal (k+1)) f args h n P:=by
 obtain ⟨e,s,g,q,a,j,u⟩:=hx;refine ⟨_,_,_,_,?_,u⟩;rw [zjd k y h n];unfold fnF;unfold ctx at g;simp only [l,hb,p,g];cases e with
 |exit i=>cases q
 |normal=>simp only [j]
 |ret=>simp only [j]
def RetH (fn:Func)(P:Value→HF→Nat→List Nat→Prop):Ex→SV→Prop:=fun e s=>rI e=true∧∃vs,resF env s fn.results.toList=some vs∧uQ vs=false∧P (qm vs) s.h s.n s.w
theorem retH {P:Value→HF→Nat→List Nat→Prop}{e:Ex}{s:SV}(a:List Value)(g:rI e=true∧resF env s fn.results.toList=some a∧uQ a=false)(j:P (qm a) s.h s.n s.w):RetH fn P e s:=by obtain ⟨g,l,i⟩:=g;exact ⟨g,a,l,i,j⟩
theorem zw {h:HF}{n:Nat}{P:Value→HF→Nat→List Nat→Prop}(a:GK.orc f args=none∧env.fn f=some fn∧fn.body=some body∧Ag (gP args) fn.ntmps=true)
  (hx:EC (ctx k n fn.ntmps) body ⟨mj args,h,n,[]⟩ (RetH fn P)):CF (cal (k+1)) f args h n P:=by
 obtain ⟨a,i,y,j⟩:=a;refine jn a i y j (sW hx fun e s ⟨l,g,p,q,u⟩=>⟨l,g,p,?_⟩);have e:endF env f h n s g=(qm g,s.h,s.n,s.w):=by
  unfold endF;rw [q,Bool.and_false]
 rw [e];exact u
def RetF (fn:Func)(P:Value→Prop):Ex→SV→Prop:=fun e s=>rI e=true∧∃vs,resF env s fn.results.toList=some vs∧uQ vs=true∧s.w=[]∧P (qm vs)
theorem retF {P:Value→Prop}{e:Ex}{s:SV}(a:List Value)(i:rI e=true)(l:resF env s fn.results.toList=some a)(g:uQ a=true∧s.w=[])(j:P (qm a)):RetF fn P e s:=by obtain ⟨g,p⟩:=g;exact ⟨i,a,l,g,p,j⟩
def VF (C:CalF)(f:FuncId)(args:List Value)(h:HF)(n:Nat)(P:Value→Prop):Prop:=CF C f args h n fun v h' n' w=>h'=h∧n'=n∧w=[]∧P v
theorem zO {h:HF}{n:Nat}{P:Value→Prop}(a:GK.orc f args=none∧env.fn f=some fn∧fn.body=some body∧Ag (gP args) fn.ntmps=true)
  (hx:EC (ctx k n fn.ntmps) body ⟨mj args,h,n,[]⟩ (RetF fn P)):VF (cal (k+1)) f args h n P:=by
 obtain ⟨a,i,A,j⟩:=a;refine jn a i A j (sW hx fun e s ⟨l,g,p,q,u,y⟩=>⟨l,g,p,?_⟩);have e:endF env f h n s g=(qm g,h,n,[]):=by
  unfold endF;rw [q,u];rfl
 rw [e];exact ⟨rfl,rfl,rfl,y⟩
section
variable {X:CtxF}{t:TF}{h:HF}{Q:SV→Prop}{d:Tmp}
theorem yi (P:Value→Prop)(i:Za X ops t o d (cls o.op=3∧effF X.E o.op (evF t) h n=some (.enter f args)))(a:VF X.C f args h n P)
  (k:∀v,P v→EO X ops r ⟨upd t d v,h,n,w⟩ Q):EO X ops (o::r) ⟨t,h,n,w⟩ Q:=by
 obtain ⟨i,l,q,j,p⟩:=i;refine zF _ ⟨i,l,q,j,p⟩ a fun v h' n' s g=>?_;obtain ⟨rfl,rfl,rfl,g⟩:=g;exact k v g
end
theorem wc {C:CalF}{h:HF}{n:Nat}{P a:Value→HF→Nat→List Nat→Prop}(j:CF C f args h n P)(l:∀v h' n' w,P v h' n' w→a v h' n' w):CF C f args h n a:=by
 obtain ⟨v,h',n',w,g,i⟩:=j;exact ⟨v,h',n',w,g,l _ _ _ _ i⟩
theorem zi {s:SV}{a:Tmp}(h:s.t a=v):resF env s [.tmp a]=some [v]:=by
 simp only [resF,h]
theorem zdv {s:SV}{a:Tmp}{g:Addr}(i:s.t a=mo (some g))(j:yB env ty s.h g=some v):resF env s [.cell a ty]=some [v]:=by
 simp only [resF,i,j]
theorem uq {P:Value→HF→Nat→List Nat→Prop}{e:Ex}{t:TF}{h:HF}{n:Nat}{w:List Nat}{a:Tmp}(g:rI e=true∧fn.results.toList=[.cell a ty]∧t a=mo (some ⟨b,0,none⟩)∧CI env ty=some true∧env.inf ty=some (sz,bt,z))(hb:h b=some (.row cs e'))(s:gP cs=sz)(p:P (.agg cs.toArray) h n w):RetH fn P e ⟨t,h,n,w⟩:=by
 obtain ⟨g,q,i,j,l⟩:=g;refine retH [.agg cs.toArray] ⟨g,?_,rfl⟩ p;rw [q];exact zdv i (yw ⟨j,l⟩ hb rfl zo (by rw [Av,pq zo]))
def Ext (n:Nat)(h h':HF):Prop:=∀b,b<3*n→h' b=h b
theorem Ext.refl (n:Nat)(h:HF):Ext n h h:=fun _ _=>rfl
theorem Ext.trans {n:Nat}{a b c:HF}(h:Ext n a b)(h':Ext n' b c)(i:n≤n'):Ext n a c:=fun k g=>(h' k zo).trans (h k g)
theorem rR {h:HF}{n:Nat}(j:GK.G h)(e:Ext n h h')(l:20≤n):GK.G h':=by
 obtain ⟨a,g,i⟩:=j;exact ⟨(e _ zo).trans a,(e _ zo).trans g,(e _ zo).trans i⟩
theorem Ext.upd {n:Nat}{h:HF}{x:Option BF}(hb:3*n≤b):Ext n h (GL.upd h b x):=fun k a=>zm zo
theorem Ext.mono {n:Nat}{h:HF}(e:Ext n' h h')(g:n≤n'):Ext n h h':=fun k a=>e k zo
inductive Sl (h:HF) (n sz:Nat):Value→List Value→Prop
 |nil {a:Option Addr} {c:Nat} (ha:a=none∨∃b off sp,a=some ⟨b,off,sp⟩∧b<3*n):Sl h n sz (gS a 0 c) []
 |at_ {b off len cap:Nat} {x:BF} {cs cells:List Value} (hb:b<3*n) (hx:h b=some x) (hc:x.cells=some cs) (hcap:len≤cap) (hl:off+len*sz≤gP cs) (he:(cs.drop off).take (len*sz)=cells):Sl h n sz (gS (some ⟨b,off,none⟩) len cap) cells
def xC (n:Nat):Value→Prop
 | gS (some a) _ _=>3*n≤a.block
 |_=>True
theorem uw {n:Nat}{a:Option Addr}(h:a=none∨∃b g i,a=some ⟨b,g,i⟩∧b<3*n)(l:n≤n'):a=none∨∃b g i,a=some ⟨b,g,i⟩∧b<3*n':=by
 rcases h with h|⟨b,g,i,e,j⟩
 ·exact .inl h
 exact .inr ⟨b,g,i,e,zo⟩
theorem Sl.ext {h:HF}{n:Nat}(s:Sl h n sz v c)(e:Ext n h h')(a:n≤n'):Sl h' n' sz v c:=by
 cases s with
 |nil ha=>exact .nil (uw ha a)
 |at_ hb hx hc hcap hl he=>exact .at_ zo (by rw [e _ hb];exact hx) hc hcap hl he
theorem Sl.keep {h:HF}{n:Nat}(s:Sl h n sz v c)(g:∀a l cap,v=gS (some a) l cap→h' a.block=h a.block)(i:n≤n'):Sl h' n' sz v c:=by
 cases s with
 |nil ha=>exact .nil (uw ha i)
 |at_ hb hx hc hcap hl he=>exact .at_ zo (by rw [g _ _ _ rfl];exact hx) hc hcap hl he
theorem xC.mono (h:xC m v)(hm:m'≤m):xC m' v:=by
 unfold xC at*
 split<;>simp_all;omega
theorem Sl.inv {h:HF}{n:Nat}{a:Option Addr}{len:Nat}(s:Sl h n sz (gS a len cap) c)(g:len≠0):∃b off x cs,a=some ⟨b,off,none⟩∧b<3*n∧h b=some x∧x.cells=some cs∧len≤cap∧off+len*sz≤gP cs∧(cs.drop off).take (len*sz)=c:=by
 cases s with
 |nil ha=>exact eN rfl g
 |at_ hb hx hc hcap g he=>exact ⟨_,_,_,_,rfl,hb,hx,hc,hcap,g,he⟩
theorem Sl.len {h:HF}{n:Nat}(s:Sl h n sz v c):∃a l cap,v=gS a l cap∧gP c=l*sz:=by
 cases s with
 |nil ha=>exact ⟨_,_,_,rfl,gN⟩
 |at_ hb hx hc hcap hl he=>exact ⟨_,_,_,rfl,by rw [←he];simp;omega⟩
section
variable {X:CtxF}{t:TF}{h:HF}{Q:SV→Prop}{d:Tmp}
theorem pY (g:Za X ops t o d (o.op=.convert ty e x∧vI X.E ty e (evF t x)=none))(y:rX X.E ty e (evF t x) h=some v)(k:EO X ops r ⟨upd t d v,h,n,w⟩ Q):EO X ops (o::r) ⟨t,h,n,w⟩ Q:=by
 obtain ⟨g,s,u,a,p⟩:=g;obtain ⟨A,i,j⟩:=k;refine ⟨A,?_,j⟩;rw [seqF,g];have q:cls o.op=4:=by rw [a];rfl
 have l:mkE X.E o.op (evF t)=none:=by rw [a];exact p
 simp only [opF,q,l];rw [a];simp only [y,xH,s,u,addW];exact i
end
inductive Gro (h:HF) (lo n:Nat) (e:TypeId) (sz:Nat):Value→Nat→List Value→Prop
 |nil:Gro h lo n e sz (gS none 0 0) 0 []
 |at_ {b len:Nat} {c:List Value} (hg:gro b=true) (hlo:3*lo≤b) (hb:b<3*n) (hr:h b=some (.row c e)) (hl:gP c=len*sz) (ho:ones c=true):Gro h lo n e sz (gS (some ⟨b,0,none⟩) len len) len c
theorem Gro.ext {h:HF}{n:Nat}{len:Nat}(g:Gro h lo n e sz v len c)(a:Ext n h h')(i:n≤n'):Gro h' lo n' e sz v len c:=by
 cases g with
 |nil=>exact .nil
 |at_ hg hlo hb hr hl ho=>exact .at_ hg hlo zo (by rw [a _ hb];exact hr) hl ho
theorem Gro.sl {h:HF}{n:Nat}{len:Nat}(g:Gro h lo n e sz v len c):Sl h n sz v c:=by
 cases g with
 |nil=>exact .nil (.inl rfl)
 |at_ hg hlo hb hr hl ho=>exact .at_ hb hr rfl eU zo (by rw [Av,pq zo])
theorem Gro.fresh {h:HF}{n:Nat}{len:Nat}(g:Gro h lo n e sz v len c):xC lo v:=by
 cases g with
 |nil=>trivial
 |at_ hg hlo hb hr hl ho=>exact hlo
theorem Gro.shape {h:HF}{n:Nat}{len:Nat}(g:Gro h lo n e sz v len c):∃a,v=gS a len len∧gP c=len*sz:=by
 cases g with
 |nil=>exact ⟨_,rfl,gN⟩
 |at_ hg hlo hb hr hl ho=>exact ⟨_,rfl,hl⟩
def Keep (v:Value)(n:Nat)(h h':HF):Prop:=∀b,b<3*n→(∀o l c,v≠gS (some ⟨b,o,none⟩) l c)→h' b=h b
def Below (m:Nat):Value→Prop
 | gS (some a) _ _=>a.block<3*m
 |_=>True
theorem Sl.below {h:HF}{n:Nat}(s:Sl h n sz v c):Below n v:=by
 cases s with
 |nil ha=>
  rcases ha with rfl|⟨b,g,i,rfl,a⟩
  ·trivial
  exact a
 |at_ a hx hc hcap hl he=>exact a
theorem yZ {a b:List Value}(g:ones a=true)(hb:ones b=true):ones (a++b)=true:=by
 induction a with
 |nil=>exact hb
 |cons v a ih=>cases v<;>simp [ones] at g ⊢ <;>exact ih g
theorem uD (n:Nat):gro (3*n+1)=true:=by
 unfold gro;rw [show (3*n+1)%3=1 from zo];rfl
theorem zV {w:List Nat}(h:∀b∈W,3*n0≤b):addW n0 W w=w:=by
 induction W generalizing w with
 |nil=>rfl
 |cons b W ih=>
  show (match Ag (3*n0) b with|true=>addW n0 W w|false=>addW n0 W (b::w))=w;rw [oo (h b gN)];exact ih fun c a=>h c (by simp [a])
theorem uf {h:HF}{n len:Nat}{x:Value}(p:E.und sT=some (.slice e))(hi:E.inf e=some (size,bytes,z))(q:gP (zn z)=size)(a:1≤size∧1≤bytes)(g:Gro h lo n e size v len c)(hx:argS h size x m new)(hm:1≤m)(hb:(len+m)*bytes≤1099511627776)(i:gP new=m*size)(j:ones new=true)(s:lo≤n):
  ∃v' h' W,yW E h n sT v x=some (.val v' h' (n+1) W)∧Gro h' lo (n+1) e size v' (len+m) (c++new)∧Ext lo h h'∧Keep v n h h'∧(∀b∈W,3*lo≤b)∧xC n v':=by
 cases g with
 |nil=>
  refine ⟨_,_,_,append_nil p hi q a.1 a.2 hx hm (by rw [sb] at hb;exact hb),?_,fun b hb=>zm zo,fun b hb _=>zm zo,fun b hb=>eN hb og,by show 3*n≤3*n+1;omega⟩;rw [sb];exact .at_ (uD n) zo zo (zg _ _ _) i j
 |at_ g hlo2 hb2 hr hl2 ho2=>
  refine ⟨_,_,_,ue p hi q a.1 a.2 hx hm hb g hr hl2 (yZ ho2 j) i,?_,fun b hb=>?_,fun b hb l=>?_,fun b hb=>?_,by show 3*n≤3*n+1;omega⟩
  ·exact .at_ (uD n) zo zo (zg _ _ _) (by rw [k0,hl2,i,An]) (yZ ho2 j)
  ·rw [zm zo,zm zo]
  ·rw [zm zo,zm (fun e=>l 0 len len (by rw [e]))]
  simp at hb;omega
section
variable {X:CtxF}{t:TF}{h:HF}{Q:SV→Prop}{d:Tmp}
theorem cm {s:Operand}{len:Nat}(g:Za X ops t o d (o.op=.call {callee:=.builtin .append,args:=#[s,x],argTypes:=#[sT,xT]}∧(match X.E.und xT with|some (.int _)=>false|none=>false|_=>true)=true∧X.E.und sT=some (.slice e)∧X.E.inf e=some (size,bytes,z)∧gP (zn z)=size))(p:1≤size∧1≤bytes)(C:Gro h lo n e size (evF t s) len c)(hx:argS h size (evF t x) m new)(hm:1≤m)(hb:(len+m)*bytes≤1099511627776)(F:gP new=m*size)(j:ones new=true)(i:X.n0≤lo∧lo≤n)
  (k:∀a h',Gro h' lo (n+1) e size a (len+m) (c++new)→Ext lo h h'→Keep (evF t s) n h h'→EO X ops r ⟨upd t d a,h',n+1,w⟩ Q):EO X ops (o::r) ⟨t,h,n,w⟩ Q:=by
 obtain ⟨g,hd,hn,G,l,H,D,I⟩:=g;obtain ⟨a,h',W,q,u,y,B,A,_⟩:=uf H D I p C hx hm hb F j i.2;refine yM ⟨g,hd,hn,G,l⟩ q ?_;rw [zV fun b hb=>by have:=A b hb;omega];exact k a h' u y B
end
theorem Sl.take {h:HF}{n:Nat}{a:Option Addr}{len:Nat}(s:Sl h n sz (gS a len cap) c)(m:Nat)(hm:m≤len):Sl h n sz (gS a m cap) (c.take (m*sz)):=by
 have i:=s.below;by_cases h0:len=0
 ·have:m=0:=zo;subst this;rw [Bg,By];cases a with
  |none=>exact .nil (.inl rfl)
  |some a=>
   cases s with
   |nil ha=>exact .nil ha
   |at_ i u l g hl p=>exact .nil (.inr ⟨_,_,_,rfl,i⟩)
 obtain ⟨b,A,x,cs,rfl,j,u,l,g,y,p⟩:=s.inv h0;have q:m*sz≤len*sz:=o0 _ hm;refine .at_ j u l zo zo ?_;rw [←p,Ej,AN q]
theorem yp {h:HF}{len:Nat}{x:BF}(hx:h b=some x)(a:x.cells=some cs∧gP cs=len*sz):argS h sz (gS (some ⟨b,0,none⟩) len cap) len cs:=by
 obtain ⟨a,g⟩:=a;refine ⟨rfl,?_⟩;simp only [yD];by_cases h0:len*sz=0
 ·rw [eS h0];rw [h0] at g;rw [vT.1 g]
 rw [eP h0];have:Ag (0+len*sz) (gP cs)=true:=oo zo;simp only [tR,hx,a,this,Cy,AV,Av];rw [pq zo]
theorem uX {h:HF}{n:Nat}{a:Option Addr}{len:Nat}(s:Sl h n sz (gS a len cap) c):argS h sz (gS a len cap) len c:=by
 cases s with
 |nil ha=>
  refine ⟨rfl,?_⟩;rcases ha with rfl|⟨b,g,i,rfl,_⟩<;>simp [yD]
 |at_ hb hx hc hcap hl he=>
  refine ⟨rfl,?_⟩;simp only [yD];by_cases h0:len*sz=0
  ·rw [eS h0,←he,h0];simp
  rw [eP h0];have:Ag (_+len*sz) _=true:=oo hl;simp only [tR,hx,hc,this,Cy,AV,he]
theorem zlz {cs cells:List Value}{off m j k:Nat}(a:(cs.drop off).take m=cells)(hj:j+k≤m):(cs.drop (off+j)).take k=(cells.drop j).take k:=by
 rw [←a,List.drop_take,Ej,List.drop_drop,AN zo]
def u32s (l:List Nat):List Value:=l.map fun d:Nat=>gZ .u32 (d:Int)
def yf (l:List Nat):List Nat:=(l.reverse.dropWhile (· ==0)).reverse
theorem wi (l:List Nat):yf (l++[0])=yf l:=by simp [yf]
theorem xy (l:List Nat){d:Nat}(h:d≠0):yf (l++[d])=l++[d]:=by simp [yf,h]
theorem snoc {l:List Nat}(h:l≠[]):∃i d,l=i++[d]:=⟨l.dropLast,l.getLast h,(Dv h).symm⟩
theorem qG {cs cells:List Value}{off m j:Nat}{u:Value}(b:(cs.drop off).take m=cells)(hj:cells[j]?=some u):cs[off+j]?=some u:=by
 have a:=(nN.1 hj).1;rw [←b] at hj a;have:j<m:=by simp at a;omega
 rw [BA this,BY] at hj;exact hj
def val:List Nat→Nat
 |[]=>0
 |d::r=>d+4294967296*val r
def Dig (l:List Nat):Prop:=∀d∈l,d<4294967296
theorem wF {P:List Nat→Prop}(b:∀l,P l→P (l++[0]))(a:∀l d,d≠0→P (l++[d]))(h0:P []):∀l,P l:=by
 intro l;induction h:gP l generalizing l with
 |zero=>rw [vT.1 h];exact h0
 |succ m ih=>
  obtain ⟨i,d,rfl⟩:=snoc (l:=l) (by intro e;rw [e] at h;simp at h);by_cases hd:d=0
  ·subst hd;exact b i (ih i (by simpa using h))
  exact a i d hd
theorem zaj:∀l,yf (yf l)=yf l:=
 wF (fun l ih=>by rw [wi,ih]) (fun l d a=>by rw [xy l a,xy l a]) rfl
theorem xU:∀l,gP (yf l)≤gP l:=
 wF (fun l ih=>by rw [wi];simp;omega) (fun l d a=>by rw [xy l a];exact AL _) (by simp [yf])
def Norm (l:List Nat):Prop:=Dig l∧yf l=l
structure IntR (h:HF)(n:Nat)(c1 c2:Value)(x:Int)(l:List Nat):Prop where
 neg:c1=jx (decide (x<0))
 sl:Sl h n 1 c2 (u32s l)
 norm:Norm l
 val:val l=x.natAbs
theorem qK (m:Nat)(h:0<m∧m≤18446744073709551616):Ai .u64 (-(m:Int))=((18446744073709551616-m:Nat):Int):=by
 simp only [Ai,Cj,BJ];simp;omega
theorem ra (a:Nat)(h:0<a∧a<18446744073709551616):Ai .u64 (0-(a:Int))=((18446744073709551616-a:Nat):Int):=by
 simp only [Ai,Cj,BJ];simp;omega
structure RatR (h:HF)(n:Nat)(n1 n2 d1 d2:Value)(q:Rat)(ln ld:List Nat):Prop where
 num:IntR h n n1 n2 q.num ln
 neg:d1=jx false
 sl:Sl h n 1 d2 (u32s ld)
 norm:Norm ld
 val:val ld=if q.den=1 then 0 else q.den
theorem uR {l:List Nat}{j d:Nat}(h:l[j]?=some d):l.drop j=d::l.drop (j+1):=by
 obtain ⟨a,rfl⟩:=nN.1 h;exact Bw a
def decD (V:Nat):List Nat:=if h:V=0 then [] else decD (V/10)++[V%10]
termination_by V
decreasing_by omega
theorem xo:decD 0=[]:=by rw [decD];simp
theorem wy {V:Nat}(h:V≠0):decD V=decD (V/10)++[V%10]:=by rw [decD,dif_neg h]
theorem zfv {V c:Nat}(a:c<10)(h:V≠0∨c≠0):decD (10*V+c)=decD V++[c]:=by
 rw [wy zo,show (10*V+c)/10=V from zo,show (10*V+c)%10=c from zo]
def u8s (l:List Nat):List Value:=l.map fun d:Nat=>gZ .u8 (d:Int)
theorem rU (l:List Nat):gP (u8s l)=gP l:=by simp [u8s]
theorem zb8 (l:List Nat):pi (u8s l)=some (l.map Bd):=by
 induction l with
 |nil=>rfl
 |cons d l ih=>
  show (match pi (u8s l) with|some r=>some (Bd (d:Int).toNat::r)|none=>none)=_;rw [ih];simp
theorem rE (l:List Nat):ones (u8s l)=true:=by
 induction l with
 |nil=>rfl
 |cons d l ih=>exact ih
def decB (V:Nat):List Nat:=(decD V).map (48+ ·)
theorem rg {E:Env}{ty e d:TypeId}{h:HF}{a:Option Addr}{len c:Nat}{B:List Nat}(b:E.und ty=some (.slice d)∧E.und e=some .string∧E.und d=some (.int .u8))(i:argS h 1 (gS a len c) len (u8s B)):rX E ty e (gS a len c) h=some (jy ⟨⟨B.map Bd⟩⟩):=by
 obtain ⟨b,f,g⟩:=b;simp only [rX,b,f,g,i.2,zb8]
theorem gi {V c:Nat}(a:c<10)(h:V≠0∨c≠0):decB (10*V+c)=decB V++[48+c]:=by
 unfold decB;rw [zfv a h];simp
theorem kY (V:Nat):gP (decB V)=gP (decD V):=by simp [decB]
theorem ws:∀(m V:Nat),V<10^m→gP (decD V)≤m:=by
 intro m;induction m with
 |zero=>(intro V h;have:V=0:=by simpa using h);subst this;rw [xo];exact AL _
 |succ m ih=>
  intro V h;by_cases h0:V=0
  ·subst h0;rw [xo];simp
  rw [wy h0,k0];have:=ih (V/10) (by rw [Bk zo];rw [Ac] at h;exact h);simp;omega
def decT (V:Nat):List UInt8:=if V=0 then [48] else (decB V).map Bd
def ratT (q:Rat):List UInt8:=(if q.num<0 then [45] else [])++(decT q.num.natAbs++(if q.den=1 then [] else 47::decT q.den))
section
variable {X:CtxF}{t:TF}{h:HF}{Q:SV→Prop}{d:Tmp}
end
section
variable {len:Nat}
def qOp (E:Env):Op→Bool
 | .convert _ d _=>(match E.und d with|some (.int _)=>true|_=>false)
 |o=>Eh (cls o) 2
theorem zd0 {o:Op}(h:qOp E o=true):cls o<2∨∃t d x k,o=.convert t d x∧E.und d=some (.int k):=by
 unfold qOp at h;split at h
 ·rename_i t d x;split at h
  ·rename_i k hk;exact .inr ⟨t,d,x,k,rfl,hk⟩
  cases h
 exact .inl (tu h)
theorem sQ {t d:TypeId}{k:IntKind}(h:E.und d=some (.int k))(v:Value):vI E t d v=none:=by
 unfold vI;rw [h];split<;>simp_all
theorem vJ {t d:TypeId}{k:IntKind}(h:E.und d=some (.int k))(v:Value)(g:HF):rX E t d v g=none:=by
 unfold rX;rw [h];split<;>simp_all
theorem eZ {X:CtxF}{ops:List Oper}:∀(l:List Oper) (ms:List Nat) (i:Nat) (s:SV) (ld:List (Nat×Nat)),gP l≤gP ms→l.all (fun o=>qOp X.E o.op)=true→z0 X ops l ms i ⟨s,[],ld,[]⟩=seqF X ops l s:=by
 intro l;induction l with
 |nil=>intro ms i s ld _ _;simp [z0,seqF]
 |cons o l ih=>
  intro ms i s ld A g;cases ms with
  |nil=>simp at A
  |cons m ms=>
   simp only [Gk,AA] at g;have f:gP l≤gP ms:=by simpa using A
   unfold z0 seqF;simp only;cases hw:zh ops s.t o with
   |false=>
    simp only;congr 1;funext s1;exact ih ms (i+1) s1 ld f g.2
   |true=>
    simp only;unfold rL opF;rcases zd0 g.1 with D|⟨t,d,x,k,q,u⟩
    ·cases p:cls o.op with
     |zero=>
      simp only [p];cases yy X.E o.op (evF s.t) with
      |none=>rfl
      |some v=>
       simp only;congr 1;funext s1;exact ih ms (i+1) s1 ld f g.2
     |succ c=>
      cases c with
      |zero=>
       simp only [p,wn];cases po X.E o.op (evF s.t) s.h with
       |none=>rfl
       |some vb=>
        obtain ⟨v,b⟩:=vb;simp only [vC,qn,AV];congr 1;funext s1;exact ih ms (i+1) s1 _ f g.2
      |succ c=>omega
    have p:cls o.op=4:=by rw [q];rfl
    have C:mkE X.E o.op (evF s.t)=none:=by rw [q];exact sQ u _
    simp only [p,C];cases hp:yy X.E o.op (evF s.t) with
    |none=>
     rw [q];simp only [vJ u]
    |some v=>
     rw [q];simp only [vJ u];congr 1;funext s1;exact ih ms (i+1) s1 ld f g.2
theorem wb {X:CtxF}{ops:Array Oper}{s:SV}{Q:Ex→SV→Prop}(f:ops.toList.all (fun o=>qOp X.E o.op)=true):EC X (.region id ops true) s Q↔EO X ops.toList ops.toList s (Q .normal):=by
 unfold EC EO;rw [xk];rw [eZ _ _ _ _ _ (by rw [oL];simp) f];cases h:seqF X ops.toList ops.toList s with
 |none=>simp
 |some r=>simp only [vH];simp
section
variable {X:CtxF}{t:TF}{h:HF}{Q:SV→Prop}{d a:Tmp}
theorem yE {f:α→Value}{l:List α}{dv:α}{i:Operand}(s:zh ops t o=true∧o.dst=some a∧zv X.nt (some a)=true∧o.op=.indexAddr ty x i∧X.E.und ty=some (.slice e)∧X.E.inf e=some (1,bt,z)∧evF t x=v)(F:Sl h m 1 v (l.map f))(hj:evF t i=gZ ik ji∧ji=(j:Int))(u:l[j]?=some dv)
  (G:∀p,zh ops (upd t a p) o2=true)(g:o2.dst=some d∧zv X.nt (some d)=true∧o2.op=.load e2 (.tmp a)∧CI X.E e2=some false)
  (k:∀p,EO X ops r ⟨upd (upd t a p) d (f dv),h,n,w⟩ Q):EO X ops (o::o2::r) ⟨t,h,n,w⟩ Q:=by
 obtain ⟨s,L,R,S,T,N,U⟩:=s;obtain ⟨hj,A⟩:=hj;obtain ⟨g,C,D,J⟩:=g;subst A;have Y:=(nN.1 u).1;obtain ⟨Z,len,cap,rfl,O⟩:=F.len;simp only [List.length_map,AH] at O;obtain ⟨b,off,xb,I,rfl,_,H,K,_,W,M⟩:=F.inv zo;have q:I[off+j]?=some (f dv):=qG M (by rw [As,u];rfl);refine oe ⟨s,L,R,S,T,N,U,hj⟩ zo ?_;refine zT ⟨(G _),g,C,D,J,(zg _ _ _)⟩ H (v:=f dv) ⟨K,(by rw [←q];congr 1;omega)⟩ ?_;exact k _
theorem se {c:Nat}{D:TD}(f:Za X ops t o d (o.op=.convert ty e x∧evF t x=gZ ik (c:Int)∧X.E.und ty=some D∧X.E.und e=some (.int .u64)))(g:c<18446744073709551616)
  (k:EO X ops r ⟨upd t d (gZ .u64 (c:Int)),h,n,w⟩ Q):EO X ops (o::r) ⟨t,h,n,w⟩ Q:=by
 obtain ⟨f,i,p,q,u,s,l⟩:=f;refine fp f i p q u s l ?_;rw [Ab g];exact k
theorem zsj {c:Nat}{D:TD}(f:Za X ops t o d (o.op=.convert ty e x∧evF t x=gZ ik (c:Int)∧X.E.und ty=some D∧X.E.und e=some (.int .u32)))(g:c<4294967296)
  (k:EO X ops r ⟨upd t d (gZ .u32 (c:Int)),h,n,w⟩ Q):EO X ops (o::r) ⟨t,h,n,w⟩ Q:=by
 obtain ⟨f,i,p,q,u,s,l⟩:=f;refine ft f i p q u s l ?_;rw [Ab g];exact k
theorem splice_one (c:List Value)(j:Nat)(v:Value)(h:j<gP c):zu c j [v]=c.set j v:=by
 unfold zu;rw [Eg,eS h];rfl
theorem uH {i:Operand}{q:Nat}{z2:Value}(l:zh ops t o=true∧o.dst=some a∧zv X.nt (some a)=true∧o.op=.indexAddr ty x i∧X.E.und ty=some (.slice e)∧X.E.inf e=some (1,bt,z)∧evF t x=gS (some ⟨b,0,none⟩) len cap∧evF t i=gZ ik ji)(u:ji=(j:Int))(A:j<len∧j<gP c)(hb:h b=some (.row c e3))(g:3*X.n0≤b)
  (D:∀p,zh ops (upd t a p) o2=true)(f:o2.dst=none∧o2.op=.store e2 (.tmp a) y∧X.E.inf e2=some (1,q,z2))(N:∀p,zn (evF (upd t a p) y)=[v])(F:ones [v]=true)
  (k:∀p,EO X ops r ⟨upd t a p,upd h b (some (.row (c.set j v) e3)),n,w⟩ Q):EO X ops (o::o2::r) ⟨t,h,n,w⟩ Q:=by
 obtain ⟨l,G,J,K,L,H,M,I⟩:=l;obtain ⟨f,C,s⟩:=f;subst u;refine oe ⟨l,G,J,K,L,H,M,I⟩ zo ?_;refine yF ⟨(D _),f,C,s,(zg _ _ _),(N _),rfl,F⟩ hb zo g ?_;rw [show 0+(j:Int).toNat*1=j from zo,splice_one c j v A.2];exact k _
theorem yG {i:Operand}{q:Nat}{z2:Value}(l:zh ops t o=true∧o.dst=some a∧zv X.nt (some a)=true∧o.op=.indexAddr ty x i∧X.E.und ty=some (.slice e)∧X.E.inf e=some (1,bt,z)∧evF t x=gS (some ⟨b,off,none⟩) len cap∧evF t i=gZ ik ji)(u:ji=(j:Int))(A:j<len∧off+j<gP c)(hb:h b=some (.row c e3))(g:b<3*X.n0)
  (D:∀p,zh ops (upd t a p) o2=true)(f:o2.dst=none∧o2.op=.store e2 (.tmp a) y∧X.E.inf e2=some (1,q,z2))(N:∀p,zn (evF (upd t a p) y)=[v])(F:ones [v]=true)
  (k:∀p,EO X ops r ⟨upd t a p,upd h b (some (.row (c.set (off+j) v) e3)),n,b::w⟩ Q):EO X ops (o::o2::r) ⟨t,h,n,w⟩ Q:=by
 obtain ⟨l,G,J,K,L,H,M,I⟩:=l;obtain ⟨f,C,s⟩:=f;subst u;refine oe ⟨l,G,J,K,L,H,M,I⟩ zo ?_;refine zcz (D _) f C s (zg _ _ _) (N _) rfl F hb zo g ?_;rw [show off+(j:Int).toNat*1=off+j from zo,splice_one c (off+j) v A.2];exact k _
end
def dv (B:Nat):List Nat→Nat
 |[]=>0
 |d::r=>d+B*dv B r
theorem vm (B:Nat)(a b:List Nat):dv B (a++b)=dv B a+B^gP a*dv B b:=by
 induction a with
 |nil=>simp [dv]
 |cons d a ih=>
  simp only [List.cons_append,dv,ih,Ao,Ac,Ap];rw [←Ah,pe (B^gP a) B];omega
theorem qz (B:Nat)(a:List Nat)(d:Nat):dv B (a++[d])=dv B a+B^gP a*d:=by
 rw [vm];simp [dv]
theorem znq {l:List Nat}(h:∀d∈l,d<B):dv B l<B^gP l:=by
 induction l with
 |nil=>simp [dv]
 |cons d l ih=>
  have p:=h d gN;have f:=ih fun x i=>h x (by simp [i]);simp only [dv,Ao,Ac];have g:B*(dv B l+1)≤B*B^gP l:=s9 B f;rw [Ap,AH] at g;rw [pe (B^gP l) B];omega
theorem pc (B n:Nat):dv B (ns n 0)=0:=by
 induction n with
 |zero=>rfl
 |succ n ih=>rw [Dd,dv,ih];simp
theorem zqi:∀{l:List Nat} {j o:Nat} (d:Nat),l[j]?=some o→dv B (l.set j d)+o*B^j=dv B l+d*B^j:=by
 intro l;induction l with
 |nil=>intro j o d h;simp at h
 |cons x l ih=>
  intro j o d h;cases j with
  |zero=>
   simp only [List.getElem?_cons_zero,Ei] at h;subst h;simp only [List.set_cons_zero,dv,BL,AH];omega
  |succ j=>
   simp only [List.getElem?_cons_succ] at h;have:=ih d h;simp only [List.set_cons_succ,dv,Ac];have e:B*(dv B (l.set j d)+o*B^j)=B*(dv B l+d*B^j):=by rw [this]
   rw [Ap,Ap] at e;have f:o*(B^j*B)=B*(o*B^j):=by rw [pe (B^j) B,Be]
   have e2:d*(B^j*B)=B*(d*B^j):=by rw [pe (B^j) B,Be]
   rw [f,e2];omega
theorem ri {l:List Nat}{d:Nat}(h:l[j]?=some d):l.take (j+1)=l.take j++[d]:=by
 obtain ⟨f,rfl⟩:=nN.1 h;rw [Ck f]
theorem wJ {l:List Nat}{d:Nat}(h:l[j]?=some d):dv B (l.take (j+1))=dv B (l.take j)+B^j*d:=by
 have f:=(nN.1 h).1;rw [ri h,qz,sn,AN zo]
theorem cI (D:List Nat)(m d:Nat):(D++ns (m+1) 0).set (gP D) d=(D++[d])++ns m 0:=by
 rw [Dd,A4 _ _ eU];simp
theorem zb2 {V' c p d:Nat}(h:V'=V+d*P)(hx:B*c'+d=c+p):V'+c'*(P*B)=V+c*P+p*P:=by
 subst h;have e:(B*c'+d)*P=(c+p)*P:=by rw [hx]
 rw [An,An] at e;have f:c'*(P*B)=B*c'*P:=by rw [pe P B,←Ah,pe c' B]
 rw [f];omega
end
def cmpZ (a b:Nat):Int:=if a<b then -1 else if a=b then 0 else 1
theorem sM (h:a<b):cmpZ a b= -1:=by unfold cmpZ;rw [eS h]
theorem jd (a:Nat):cmpZ a a=0:=by unfold cmpZ;rw [eP (Nat.lt_irrefl _),eS rfl]
theorem sO (h:b<a):cmpZ a b=1:=by unfold cmpZ;rw [eP zo,eP zo]
theorem zqj {l:List Nat}(c:d≠0):B^gP l≤dv B (l++[d]):=by
 rw [qz];have:B^gP l*1≤B^gP l*d:=s9 _ zo;omega
theorem cv {l:List Nat}(h:l[j]?=some d):l=l.take j++(d::l.drop (j+1)):=by
 have:=Bm j l;rw [uR h] at this;exact this.symm
theorem nc {x y:Nat}(g:∀d∈A,d<B)(hx:A[j]?=some x)(e:C[j]?=some y)(c:A.drop (j+1)=C.drop (j+1))(h:x<y):dv B A<dv B C:=by
 have i:=(nN.1 hx).1;have m:=(nN.1 e).1;rw [cv hx,cv e,vm,vm,c,sn,sn,AN zo,AN zo];simp only [dv];have o:dv B (A.take j)<B^j:=by
  have:=znq (B:=B) (l:=A.take j) fun d c=>g d (AB c);rw [sn,AN zo] at this;exact this
 have f:B^j*(x+B*dv B (C.drop (j+1))+1)≤B^j*(y+B*dv B (C.drop (j+1))):=s9 _ zo;rw [Ap,AH] at f;omega
section
variable {len:Nat}
def u64s (l:List Nat):List Value:=l.map fun d:Nat=>gZ .u64 (d:Int)
theorem zL (l:List Nat):gP (u64s l)=gP l:=by simp [u64s]
theorem vg (a b:List Nat):u64s (a++b)=u64s a++u64s b:=by simp [u64s]
theorem yk (l:List Nat)(j d:Nat):(u64s l).set j (gZ .u64 (d:Int))=u64s (l.set j d):=by
 unfold u64s;rw [List.map_set]
theorem dX {l:List Nat}(h:l[j]?=some d):(u64s l)[j]?=some (gZ .u64 (d:Int)):=by
 rw [u64s,As,h];rfl
theorem re (l:List Nat)(m:Nat):(u64s l).take m=u64s (l.take m):=by simp [u64s,List.map_take]
theorem rf (l:List Nat)(m:Nat):(u64s l).drop m=u64s (l.drop m):=by simp [u64s,List.map_drop]
theorem xW (l:List Nat):ones (u64s l)=true:=by
 induction l with
 |nil=>rfl
 |cons d l ih=>exact ih
theorem xO (n:Nat):rep n [gZ .u64 0]=u64s (ns n 0):=by
 induction n with
 |zero=>rfl
 |succ n ih=>
  rw [rep,ih,Dd];rfl
def WdD (l:List Nat):Prop:=∀d∈l,d<18446744073709551616
def wv (l:List Nat):Nat:=dv 18446744073709551616 l
theorem WdD.snoc {D:List Nat}(h:WdD D)(b:d<18446744073709551616):WdD (D++[d]):=fun x a=>by
 rcases AY.1 a with a|a
 ·exact h x a
 simp at a;omega
theorem WdD.get {l:List Nat}(h:WdD l)(a:l[j]?=some d):d<18446744073709551616:=h d (mp a)
theorem WdD.nil:WdD []:=fun d a=>eN a og
theorem WdD.take {l:List Nat}(h:WdD l)(m:Nat):WdD (l.take m):=fun d a=>h d (AB a)
theorem WdD.drop {l:List Nat}(h:WdD l)(m:Nat):WdD (l.drop m):=fun d a=>h d (List.mem_of_mem_drop a)
theorem WdD.zeros (m:Nat):WdD (ns m 0):=fun d a=>by rw [List.eq_of_mem_replicate a];decide
theorem WdD.append {a b:List Nat}(e:WdD a)(hb:WdD b):WdD (a++b):=fun x c=>by
 rcases AY.1 c with c|c
 ·exact e x c
 exact hb x c
theorem WdD.set {l:List Nat}(h:WdD l)(b:d<18446744073709551616):WdD (l.set j d):=fun x a=>by
 rcases List.mem_or_eq_of_mem_set a with a|rfl
 ·exact h x a
 exact b
theorem pv (B:Nat):∀l,dv B (yf l)=dv B l:=
 wF (fun l ih=>by rw [wi,ih,vm];simp [dv]) (fun l d a=>by rw [xy l a]) rfl
theorem zcq:∀l,WdD l→WdD (yf l):=
 wF (fun l ih h=>by rw [wi];exact ih fun d a=>h d (by simp [a])) (fun l d a h=>by rw [xy l a];exact h) (fun h=>h)
def NW (l:List Nat):Prop:=WdD l∧yf l=l
theorem NW.trim {l:List Nat}(h:WdD l):NW (yf l):=⟨zcq l h,zaj l⟩
theorem NW.nil:NW []:=⟨WdD.nil,rfl⟩
theorem NW.last {l:List Nat}(h:NW (l++[d])):d≠0:=fun e=>by
 have a:=h.2;subst e;rw [wi] at a;have:=xU l;rw [a] at this;simp at this;omega
theorem NW.one (h0:d≠0)(h:d<18446744073709551616):NW [d]:=⟨WdD.snoc WdD.nil h,xy [] h0⟩
theorem wW {l:List Nat}(h:WdD l):wv l<18446744073709551616^gP l:=znq h
theorem NW.low {l:List Nat}(h:NW (l++[d])):18446744073709551616^gP l≤wv (l++[d]):=zqj h.last
theorem NW.pos {l:List Nat}(h:NW l)(a:l≠[]):0<wv l:=by
 obtain ⟨i,d,rfl⟩:=Go.Proofs.YtepkmadmigkgmaaGreatDoor.snoc a;have:=h.low;have:0<18446744073709551616^gP i:=AW zo;omega
theorem NW.zero {l:List Nat}(h:NW l):wv l=0↔l=[]:=
 ⟨fun b=>tp fun a=>by have:=h.pos a;omega,fun e=>by rw [e];rfl⟩
theorem NW.len_lt (a:NW A)(b:NW C)(h:gP A<gP C):wv A<wv C:=by
 obtain ⟨i,d,rfl⟩:=Go.Proofs.YtepkmadmigkgmaaGreatDoor.snoc (l:=C) (by intro e;rw [e] at h;simp at h);have c:=wW a.1;have f:=b.low;have g:18446744073709551616^gP A≤18446744073709551616^gP i:=sN zo (by simp at h;omega);omega
theorem NW.len_le (b:NW A)(h:wv A<18446744073709551616^k):gP A≤k:=by
 apply tp;intro a;obtain ⟨i,d,rfl⟩:=Go.Proofs.YtepkmadmigkgmaaGreatDoor.snoc (l:=A) (by intro e;rw [e] at a;simp at a);have c:=b.low;have f:18446744073709551616^k≤18446744073709551616^gP i:=sN zo (by simp at a;omega);omega
theorem zqk:∀{A C:List Nat},gP A=gP C→(∀d∈A,d<B)→(∀d∈C,d<B)→dv B A=dv B C→A=C:=by
 intro A;induction A with
 |nil=>intro C b _ _ _;exact (vT.1 b.symm).symm
 |cons a A ih=>
  intro C b f g h;cases C with
  |nil=>simp at b
  |cons c C=>
   have m:=f a gN;have o:=g c gN;simp only [dv] at h;have i:a=c:=by
    have:=congrArg (· %B) h;simp only [Fc,Ab m,Ab o] at this;exact this
   subst i;have l:dv B A=dv B C:=Cs zo (Nat.add_left_cancel h);rw [ih (by simpa using b) (fun d e=>f d (by simp [e])) (fun d e=>g d (by simp [e])) l]
theorem NW.inj (b:NW A)(c:NW C)(h:wv A=wv C):A=C:=by
 rcases DG (gP A) (gP C) with a|a|a
 ·have:=b.len_lt c a;omega
 ·exact zqk a b.1 c.1 h
 have:=c.len_lt b a;omega
theorem Sl.lenW {a:Option Addr}{l:List Nat}(f:Sl h n 1 (gS a len cap) (u64s l)):len=gP l:=by
 obtain ⟨i,g,b,e,c⟩:=f.len;rw [zL] at c;injection e with e1 e2 e3
 omega
theorem xi (k:Nat){a:Option Addr}{l:List Nat}(hb:gP l<4611686018427387904)(G:∀ad,a=some ad→ad.spot=none)(o:Sl h n 1 (gS a len cap) (u64s l)):CF (cal (k+1)) 173 [gS a len cap] h n fun I s y w=>s=h∧y=n∧w=[]∧I=gS a (gP (yf l)) cap∧Sl h n 1 I (u64s (yf l)):=by
 refine zw (fn:=Tryz.f173) R4 ?_;have i:=o.lenW;subst i;refine Zw ?_;refine ye (α:=Nat) (fun m=>[(0,gS a (gP l) cap),(3,gZ .i64 (m:Int))]) (fun m s y w=>h=s∧n=y∧w=[]∧m≤gP l∧yf (l.take m)=yf l) (fun m=>m) (gP l) ⟨rfl,rfl,eT⟩ ⟨rfl,rfl,rfl,eU,by rw [xd]⟩ (by show gP l<LL;unfold LL;omega) ?_;rintro m t _ _ _ ⟨rfl,rfl,rfl,J,v⟩;have p:∀L:TF,yf l=l.take m→gP (yf l)=m∧Sl h n 1 (gS a m cap) (u64s (yf l)):=fun L e=>by
  have D:=o.take m J;rw [AH,re] at D;rw [e];exact ⟨by rw [sn];omega,D⟩
 refine zN ?_;cases m with
 |zero=>
  refine Zl ?_;have u:yf l=l.take 0:=by rw [←v,By];rfl
  obtain ⟨c,g⟩:=p t u;cases a with
  |none=>
   refine Zb ?_;refine retH _ ⟨rfl,(zi rfl),rfl⟩ ⟨rfl,rfl,rfl,?_,g⟩;rw [c];rfl
  |some ad=>
   obtain ⟨b,H,K⟩:=ad;obtain rfl:K=none:=G _ rfl;repeat refine zR ?_
   refine td 0 R8 zo zo ?_;refine Zb ?_;refine retH _ ⟨rfl,(zi rfl),rfl⟩ ⟨rfl,rfl,rfl,?_,g⟩;rw [c];rfl
 |succ m=>
  obtain ⟨d,F⟩:∃d,l[m]?=some d:=⟨l[m]'zo,kF zo⟩;have q:=ri F;repeat refine zR ?_
  refine yE (f:=fun d:Nat=>gZ .u64 (d:Int)) (j:=m) R7 o ⟨rfl,zo⟩ F (fun _=>rfl) R4 fun _=>?_;by_cases h0:d=0
  ·refine Zq ?_;refine goOn m zo ⟨rfl,by show gZ .i64 _=gZ .i64 _;congr 1;omega,eT⟩ ⟨rfl,rfl,rfl,zo,?_⟩;rw [←v,q,h0,wi]
  refine Zl ?_;have u:yf l=l.take (m+1):=by rw [←v,q,xy _ h0]
  obtain ⟨c,g⟩:=p t u;obtain ⟨b,H,x,M,rfl,_⟩:=o.inv zo;repeat refine zR ?_
  refine td (m+1) R8 zo zo ?_;refine Zb ?_;refine retH _ ⟨rfl,(zi rfl),rfl⟩ ⟨rfl,rfl,rfl,?_,g⟩;rw [c];rfl
end
def cmpI (a b:Int):Int:=if a<b then -1 else if b<a then 1 else 0
theorem aD (a b:Nat):cmpI (a:Int) (b:Int)=cmpZ a b:=by
 unfold cmpI cmpZ;rcases DG a b with h|h|h
 ·rw [eS zo,eS h]
 ·rw [eP zo,eP zo,eP zo,eS h]
 rw [eP zo,eS zo,eP zo,eP zo]
theorem iJ (k:Nat)(h:HF)(n:Nat)(a:Int):VF (cal (k+1)) 210 [gZ .i64 a] h n fun v=>v=jx false:=by
 refine zO (fn:=Tryz.f210) R4 ?_;refine Zw ?_;exact retF _ rfl (zi rfl) R2 rfl
theorem zn4 (k:Nat)(h:HF)(n:Nat)(a b:Int):VF (cal (k+2)) 190 [gZ .i64 a,gZ .i64 b] h n fun v=>v=gZ .i64 (cmpI a b):=by
 refine zO (fn:=Tryz.f190) R4 ?_;refine Zy ?_;refine yi _ R5 (iJ k h n a) ?_;rintro _ rfl;refine Zm ?_;refine yi _ R5 (iJ k h n b) ?_;rintro _ rfl;refine Zb ?_;refine Zp ?_;rw [za rfl];refine zN ?_;rcases DH a b with d|e|c
 ·refine Zq ?_;exact retF _ rfl (zi rfl) R2 (by rw [cmpI,eS d];rfl)
 ·refine Zp ?_;rw [za rfl];refine Zd ?_;exact retF _ rfl (zi rfl) R2 (by rw [cmpI,eP zo,eP zo];rfl)
 refine Zp ?_;rw [ze rfl];refine Zd ?_;exact retF _ rfl (zi rfl) R2 (by rw [cmpI,eP zo,eS c];rfl)
theorem oQ (k:Nat)(h:HF)(n:Nat)(a:Int):VF (cal (k+1)) 159 [gZ .i64 a] h n fun v=>v=jx false:=by
 refine zO (fn:=Tryz.f159) R4 ?_;refine Zw ?_;exact retF _ rfl (zi rfl) R2 rfl
theorem zf7 (k:Nat)(h:HF)(n:Nat)(a b:Int):VF (cal (k+2)) 127 [gZ .i64 a,gZ .i64 b] h n fun v=>v=gZ .i64 (cmpI a b):=by
 refine zO (fn:=Tryz.f127) R4 ?_;refine Zy ?_;refine yi _ R5 (oQ k h n a) ?_;rintro _ rfl;refine Zm ?_;refine yi _ R5 (oQ k h n b) ?_;rintro _ rfl;refine Zb ?_;refine Zp ?_;rw [za rfl];refine zN ?_;rcases DH a b with d|e|c
 ·refine Zq ?_;exact retF _ rfl (zi rfl) R2 (by rw [cmpI,eS d];rfl)
 ·refine Zp ?_;rw [za rfl];refine Zd ?_;exact retF _ rfl (zi rfl) R2 (by rw [cmpI,eP zo,eP zo];rfl)
 refine Zp ?_;rw [ze rfl];refine Zd ?_;exact retF _ rfl (zi rfl) R2 (by rw [cmpI,eP zo,eS c];rfl)
theorem qX (k:Nat)(h:HF)(n:Nat)(a:Int):VF (cal (k+1)) 211 [gZ .u64 a] h n fun v=>v=jx false:=by
 refine zO (fn:=Tryz.f211) R4 ?_;refine Zw ?_;exact retF _ rfl (zi rfl) R2 rfl
theorem zb0 (k:Nat)(h:HF)(n:Nat)(a b:Int):VF (cal (k+2)) 191 [gZ .u64 a,gZ .u64 b] h n fun v=>v=gZ .i64 (cmpI a b):=by
 refine zO (fn:=Tryz.f191) R4 ?_;refine Zy ?_;refine yi _ R5 (qX k h n a) ?_;rintro _ rfl;refine Zm ?_;refine yi _ R5 (qX k h n b) ?_;rintro _ rfl;refine Zb ?_;refine Zp ?_;rw [za rfl];refine zN ?_;rcases DH a b with d|e|c
 ·refine Zq ?_;exact retF _ rfl (zi rfl) R2 (by rw [cmpI,eS d];rfl)
 ·refine Zp ?_;rw [za rfl];refine Zd ?_;exact retF _ rfl (zi rfl) R2 (by rw [cmpI,eP zo,eP zo];rfl)
 refine Zp ?_;rw [ze rfl];refine Zd ?_;exact retF _ rfl (zi rfl) R2 (by rw [cmpI,eP zo,eS c];rfl)
theorem uF (k:Nat){h:HF}{n:Nat}{g i:Option Addr}{K l L m:Nat}{A C:List Nat}(o:Sl h n 1 (gS g K l) (u64s A))(p:Sl h n 1 (gS i L m) (u64s C))(D:NW A)(F:NW C)(hb:gP A<1000000000000):
  VF (cal (k+3)) 160 [gS g K l,gS i L m] h n fun v=>v=gZ .i64 (cmpZ (wv A) (wv C)):=by
 refine zO (fn:=Tryz.f160) R4 ?_;have M:=o.lenW;have N:=p.lenW;subst M N;refine Zd ?_;by_cases hlen:gP A=gP C
 ·refine Zp ?_;refine ye (α:=Nat) (fun j=>[(0,gS g (gP A) l),(1,gS i (gP C) m),(5,gZ .i64 ((j:Int)-1))]) (fun j R S w=>h=R∧n=S∧w=[]∧j≤gP A∧A.drop j=C.drop j) (fun j=>j) (gP A) ⟨rfl,rfl,rfl,eT⟩ ⟨rfl,rfl,rfl,eU,by rw [BE,hlen,BE]⟩ (by show gP A<LL;unfold LL;omega) ?_;rintro j t _ _ _ ⟨rfl,rfl,rfl,Y,b⟩;refine zN ?_;cases j with
  |zero=>
   refine Zp ?_;rw [Av,Av] at b;subst b;exact retF _ rfl (zi rfl) R2 (by rw [jd];rfl)
  |succ j=>
   obtain ⟨x,c⟩:∃x,A[j]?=some x:=⟨A[j]'zo,kF zo⟩;obtain ⟨y,e⟩:∃x,C[j]?=some x:=⟨C[j]'zo,kF zo⟩;refine Zt ?_;rw [zae rfl];repeat refine zR ?_
   refine yE (f:=fun d:Nat=>gZ .u64 (d:Int)) (j:=j) R7 o ⟨rfl,zo⟩ c (fun _=>rfl) R4 fun _=>?_;repeat refine zR ?_
   refine yE (f:=fun d:Nat=>gZ .u64 (d:Int)) (j:=j) R7 p ⟨rfl,zo⟩ e (fun _=>rfl) R4 fun _=>?_;by_cases hxy:x=y
   ·refine Zp ?_;refine goOn j zo ⟨rfl,rfl,by show gZ .i64 _=gZ .i64 _;congr 1;omega,eT⟩ ⟨rfl,rfl,rfl,zo,?_⟩;rw [uR c,uR e,b,hxy]
   refine Zt ?_;refine zl [0,0,3,7,0,0,48,112,255,511] rfl ?_;obtain ⟨V,T,Z,G,rfl,_,u,q,_,_,I⟩:=o.inv zo;obtain ⟨W,U,x2,H,rfl,_,B,s,_,_,J⟩:=p.inv zo;have O:G[T+j]?=some (gZ .u64 (x:Int)):=qG I (dX c);have P:H[U+j]?=some (gZ .u64 (y:Int)):=qG J (dX e);repeat refine zD ?_
   refine bO R8 zo ?_;refine yd R6 (zX rfl u (v:=gZ .u64 (x:Int)) ⟨q,(by rw [←O];congr 1;omega)⟩) R2 ?_;repeat refine zD ?_
   refine bO R8 zo ?_;refine yd R6 (zX rfl B (v:=gZ .u64 (y:Int)) ⟨s,(by rw [←P];congr 1;omega)⟩) R2 ?_;refine ziw _ R7 (zb0 k h n (x:Int) (y:Int)) ?_;rintro _ rfl;repeat refine zD ?_
   refine zN ?_;refine retF _ rfl (zi rfl) R2 ?_;rw [aD];show gZ .i64 (cmpZ x y)=gZ .i64 (cmpZ (wv A) (wv C));congr 1;rcases D9 hxy with a|a
   ·rw [sM a,sM (show wv A<wv C from nc D.1 c e b a)]
   rw [sO a,sO (show wv C<wv A from nc F.1 e c b.symm a)]
 refine Zr ?_;refine yi _ R5 (zn4 k h n (gP A:Int) (gP C:Int)) ?_;rintro _ rfl;refine Zb ?_;refine retF _ rfl (zi rfl) R2 ?_;rw [aD];show gZ .i64 _=gZ .i64 _;congr 1;rcases D9 hlen with a|a
 ·rw [sM a,sM (D.len_lt F a)]
 rw [sO a,sO (F.len_lt D a)]
def ResW (n:Nat)(h:HF)(v:Value)(h':HF)(n':Nat)(w:List Nat)(L:List Nat):Prop:=w=[]∧n≤n'∧Ext n h h'∧Sl h' n' 1 v (u64s L)∧NW L
theorem sH (k:Nat)(h:HF)(n:Nat){w:Nat}(b:w<18446744073709551616):CF (cal (k+1)) 138 [gZ .u64 (w:Int)] h n fun v a c W=>∃L,ResW n h v a c W L∧wv L=w∧gP L≤1∧xC n v:=by
 refine zw (fn:=Tryz.f138) R4 ?_;refine Zd ?_;by_cases h0:w=0
 ·subst h0;refine Zq ?_;exact retH _ ⟨rfl,(zi rfl),rfl⟩ ⟨[],⟨rfl,eU,Ext.refl _ _,.nil (.inl rfl),NW.nil⟩,rfl,by decide,eT⟩
 refine Zg ?_;refine Zj ?_;refine pZ (cs:=[gZ .u64 (w:Int)]) R5 ?_;refine Zb ?_;exact retH _ ⟨rfl,(zi rfl),rfl⟩ ⟨[w],⟨rfl,Al _,Ext.upd zo,.at_ (by show 3*n+2<3*(n+1);omega) (zg _ _ _) rfl eU eU rfl,NW.one h0 b⟩,by simp [wv,dv],eU,by show 3*n≤3*n+2;omega⟩
end Go.Proofs.YtepkmadmigkgmaaGreatDoor
namespace Go.Proofs.YtepkmadmigkgmaaGreatDoor
theorem sE {x:Nat}(hx:x%2=1)(t y:Nat):rp x (2^t*y)=rp x y:=by
 have a:C6 x (2^t):=by
  apply Nat.Coprime.pow_right;unfold C6;rw [Cp,FU,hx];rfl
 exact DT y a.symm
theorem ez (x y:Nat):rp (min x y) (max x y-min x y)=rp x y:=by
 rcases Nat.le_total x y with h|h
 ·rw [AN h,G3 h,FD h]
 rw [Fw h,Ho h,FD h,Cp]
def Tz (x t:Nat):Prop:=∃o,x=2^t*o∧o%2=1
theorem Tz.or {x y t:Nat}(h:Tz (x|||y) t):∃a b,x=2^t*a∧y=2^t*b∧(a%2=1∨b%2=1):=by
 obtain ⟨o,e,i⟩:=h;have c:(x|||y)%2^t=0:=by rw [e];exact DI _ _
 rw [Gt] at c;obtain ⟨j,l⟩:x%2^t=0∧y%2^t=0:=Gu.1 c;obtain ⟨a,rfl⟩:=FE j;obtain ⟨b,rfl⟩:=FE l;refine ⟨a,b,rfl,rfl,?_⟩;apply tp;intro m;have f:a%2=0:=zo;have g:b%2=0:=zo;have d:(2^t*a|||2^t*b)%2^(t+1)=0:=by
  rw [Gt,Ac,EH,EH,f,g,Bp];rfl
 rw [e,Ac,EH,i] at d;have:0<2^t:=AW zo;omega
theorem zex {x y s t o:Nat}(q:Tz (x|||y) s)(hx:x=2^t*o)(f:o%2=1):2^s*rp o y=rp x y:=by
 obtain ⟨a,b,c,g,e⟩:=q.or;have u:s≤t:=by
  apply tp;intro p;have:2^s=2^t*(2*2^(s-t-1)):=by
   rw [←Ah,←Ac,←Bf];congr 1;omega
  rw [hx,this,Ah] at c;have:=Cs (AW zo) c;rw [this,Ah,DI] at f;omega
 have d:a=2^(t-s)*o:=by
  have:2^t=2^s*2^(t-s):=by rw [←Bf];congr 1;omega
  rw [hx,this,Ah] at c;exact (Cs (AW zo) c).symm
 rw [c,g,Nat.gcd_mul_left,sE f,d];congr 1;rcases e with i|j
 ·have:t-s=0:=by
   apply tp;intro p;obtain ⟨m,l⟩:∃m,t-s=m+1:=⟨t-s-1,zo⟩;rw [d,l,Ac,Ah,Be,DI] at i;omega
  rw [this,BL,BR]
 rw [Cp,←sE j (t-s) o,Cp]
theorem zey {x y t z:Nat}(hx:x%2=1)(a:y=2^t*z)(b:z%2=1):min x z%2=1∧rp (min x z) (max x z-min x z)=rp x y∧min x z+(max x z-min x z)<x+y:=by
 refine ⟨?_,?_,?_⟩
 ·rcases Nat.le_total x z with h|h
  ·rw [AN h];exact hx
  rw [Fw h];exact b
 ·rw [ez,a,sE hx]
 have c:z≤y:=by rw [a];exact Nat.le_mul_of_pos_left _ (AW zo)
 have:min x z+(max x z-min x z)=max x z:=zo;rw [this];omega
end Go.Proofs.YtepkmadmigkgmaaGreatDoor
namespace Go.Proofs.YtepkmadmigkgmaaGreatDoor
open Go Go.GL
variable {ty' ty e:TypeId}{len off bt sz a b n:Nat}{ops r:List Oper}{ik:IntKind}{x y:Operand}{v z:Value}{w:List Nat}{o:Oper}{d:Tmp}
section
variable {X:CtxF}{t:TF}{h:HF}{Q:SV→Prop}
theorem zc1 (j:zh ops t o=true)(c:o.dst=some d)(f:zv X.nt (some d)=true)(g:o.op=.binOp .and ty x y ty')(hx:evF t x=gZ .u64 (a:Int))(l:evF t y=gZ .u64 4294967295)(i:a<18446744073709551616)
  (k:EO X ops r ⟨upd t d (gZ .u64 ((a%4294967296:Nat):Int)),h,n,w⟩ Q):EO X ops (o::r) ⟨t,h,n,w⟩ Q:=by
 refine mF (b:=4294967295) j c f g hx l ⟨i,by decide⟩ ?_;rw [show a&&& 4294967295=a%4294967296 from Nat.and_two_pow_sub_one_eq_mod a 32];exact k
theorem zl7 (i:zh ops t o=true)(c:o.dst=some d)(f:zv X.nt (some d)=true)(g:o.op=.binOp .shr ty x y ty')(hx:evF t x=gZ .u64 (a:Int))(j:evF t y=gZ ik 32)
  (k:EO X ops r ⟨upd t d (gZ .u64 ((a/4294967296:Nat):Int)),h,n,w⟩ Q):EO X ops (o::r) ⟨t,h,n,w⟩ Q:=
 yn (s:=32) ⟨i,c,f,g,hx,j⟩ zd k
theorem zW {d:Tmp}(k:EO X ops r ⟨upd t d v,h,n,w⟩ Q)(f:EO X ops r ⟨upd t d v,h,n,w⟩ Q→EO X ops (o::r) ⟨t,h,n,w⟩ Q:=by first|exact jC R6 zo|exact zc2 R6 zo|exact oa R6 zo|exact mD R6 zo|exact zsc R6 zo|exact zsd R6 zo|exact jD R6 zo|exact zse R6 zo|exact zc3 R6 zo|exact zc4 R6 zo|exact zsh R6 zo|exact zsi R6 zo|exact lW R6|exact zhc R6|exact zhd R6|exact zaq R6|exact zc5 R6|exact zsb R6|exact uI R6 zo|exact qO R6 zo|exact xt (a:=4294967296) R6 zo|exact zc1 rfl rfl rfl rfl rfl rfl zo|exact zl7 rfl rfl rfl rfl rfl rfl|exact se R7 zo|exact zsj R7 zo|exact yT R6 zo|exact xu R6 zo|exact ym R6 zo|exact ym (b:=1) R6 zo|exact zao rfl rfl rfl rfl rfl rfl zo|exact xt R6 zo|exact xM R6 zo|exact yn (s:=32) R6 zo|exact st_I R5|exact st_B R5|exact st_S R5|exact st_P R5|exact st_T R5|exact st_A R5|exact st_U R5|exact zS (v:=.pointer none) R4 rfl|exact zsa R3):EO X ops (o::r) ⟨t,h,n,w⟩ Q:=f k
theorem vt {x y c:Nat}(f:Za X ops t o d (cls o.op=3∧effF X.E o.op (evF t) h n=(match GE.ext 207 [gZ .u64 (x:Int),gZ .u64 (y:Int),gZ .u64 (c:Int)] with|some v=>some (.val v h n [])|none=>some (.enter 207 [gZ .u64 (x:Int),gZ .u64 (y:Int),gZ .u64 (c:Int)]))))(hb:c≤1)
  (k:EO X ops r ⟨upd t d (.tuple #[gZ .u64 (((x+y+c)%18446744073709551616:Nat):Int),gZ .u64 (((x+y+c)/18446744073709551616:Nat):Int)]),h,n,w⟩ Q):EO X ops (o::r) ⟨t,h,n,w⟩ Q:=by
 obtain ⟨f,i,l,g,j⟩:=f;refine zj3 f i l g (j.trans ?_) k;have e:GE.ext 207 [gZ .u64 (x:Int),gZ .u64 (y:Int),gZ .u64 (c:Int)]=some (.tuple #[gZ .u64 (((x+y+c)%18446744073709551616:Nat):Int),gZ .u64 (((x+y+c)/18446744073709551616:Nat):Int)]):=by
  show (match Ag c 1 with|true=>some (EG ⟨[gZ .u64 (.ofNat ((x+y+c)%18446744073709551616)),gZ .u64 (.ofNat ((x+y+c)/18446744073709551616))]⟩)|false=>none)=_;rw [oo hb];rfl
 rw [e]
theorem rn {x y c:Nat}(f:Za X ops t o d (cls o.op=3∧effF X.E o.op (evF t) h n=(match GE.ext 204 [gZ .u64 (x:Int),gZ .u64 (y:Int),gZ .u64 (c:Int)] with|some v=>some (.val v h n [])|none=>some (.enter 204 [gZ .u64 (x:Int),gZ .u64 (y:Int),gZ .u64 (c:Int)]))))(hb:c≤1)
  (k:EO X ops r ⟨upd t d (.tuple #[gZ .u64 (((x+18446744073709551616-y-c)%18446744073709551616:Nat):Int),gZ .u64 ((if y+c≤x then 0 else 1:Nat):Int)]),h,n,w⟩ Q):EO X ops (o::r) ⟨t,h,n,w⟩ Q:=by
 obtain ⟨f,i,l,g,j⟩:=f;refine zj3 f i l g (j.trans ?_) k;have e:GE.ext 204 [gZ .u64 (x:Int),gZ .u64 (y:Int),gZ .u64 (c:Int)]=some (.tuple #[gZ .u64 (((x+18446744073709551616-y-c)%18446744073709551616:Nat):Int),gZ .u64 ((if y+c≤x then 0 else 1:Nat):Int)]):=by
  show (match Ag c 1 with|true=>some (EG ⟨[gZ .u64 (.ofNat ((x+18446744073709551616-y-c)%18446744073709551616)),gZ .u64 (.ofNat (match Ag (y+c) x with|true=>0|false=>1))]⟩)|false=>none)=_;rw [oo hb];by_cases h:y+c≤x
  ·rw [oo h,eS h];rfl
  rw [eP h];cases hb:Ag (y+c) x with
  |true=>exact eN (tu hb) h
  |false=>rfl
 rw [e]
theorem fk {i:Operand}{j:Int}(c:Za X ops t o d (o.op=.indexAddr ty x i∧X.E.und ty=some (.array len e)∧X.E.inf e=some (sz,bt,z)∧evF t x=mo (some ⟨b,off,none⟩)∧evF t i=gZ ik j))(q:0≤j∧j<len)(k:EO X ops r ⟨upd t d (mo (some ⟨b,off+j.toNat*sz,none⟩)),h,n,w⟩ Q):EO X ops (o::r) ⟨t,h,n,w⟩ Q:=by
 obtain ⟨c,g,p,f,s,l,u,m⟩:=c;refine zS ⟨c,g,p,(by rw [f];rfl)⟩ ?_ k;rw [f];show yV X.E ty (evF t x) (evF t i)=_;rw [u,m];simp only [yV,s,l,eS q,wO]
end
theorem zqp:GK.d64=Fm.map fun d:Nat=>gZ .u8 (d:Int):=rfl
theorem pC (k:Nat)(h:HF)(n:Nat){x y:Nat}(hx:x<18446744073709551616)(f:y<18446744073709551616):VF (cal (k+1)) 209 [gZ .u64 (x:Int),gZ .u64 (y:Int)] h n fun v=>v=.tuple #[gZ .u64 ((x*y/18446744073709551616:Nat):Int),gZ .u64 ((x*y%18446744073709551616:Nat):Int)]:=by
 refine zO (fn:=Tryz.f209) R4 ?_;obtain ⟨g,i,j,c⟩:=Lib.mul64_hi x y hx f;have l:=FI (a:=x/4294967296) (b:=y/4294967296) zo zo;have m:=FI (a:=x/4294967296) (b:=y%4294967296) zo zo;have p:=FI (a:=x%4294967296) (b:=y/4294967296) zo zo;refine Zd ?_;repeat refine zW ?_
 refine zN ?_;repeat refine zW ?_
 refine zN ?_;repeat refine zW ?_
 refine zN ?_;repeat refine zW ?_
 refine zN ?_;repeat refine zW ?_
 refine zN ?_;repeat refine zW ?_
 refine zN ?_;repeat refine zW ?_
 refine zN ?_;repeat refine zW ?_
 refine zN ?_;repeat refine zW ?_
 refine zN ?_;repeat refine zW ?_
 refine Zn ?_;refine wk (a:=x) (b:=y) R6 ?_;refine Zb ?_;refine retF [gZ .u64 _,gZ .u64 _] rfl rfl R2 ?_;rw [←c];rfl
theorem uN (k:Nat)(h:HF)(n:Nat){x y c:Nat}(hx:x<18446744073709551616)(i:y<18446744073709551616)(j:c<18446744073709551616):VF (cal (k+2)) 203 [gZ .u64 (x:Int),gZ .u64 (y:Int),gZ .u64 (c:Int)] h n fun v=>v=.tuple #[gZ .u64 (((x*y+c)%18446744073709551616:Nat):Int),gZ .u64 (((x*y+c)/18446744073709551616:Nat):Int)]:=by
 refine zO (fn:=Tryz.f203) R4 ?_;have l:x*y≤18446744073709551615*18446744073709551615:=Ar zo zo;refine Zy ?_;refine yi _ R5 (pC k h n hx i) ?_;rintro _ rfl;refine Zu ?_;refine vt (x:=x*y%18446744073709551616) (y:=c) (c:=0) R5 zd ?_;refine Zu ?_;refine zM ?_;refine yT (a:=x*y/18446744073709551616) (b:=(x*y%18446744073709551616+c+0)/18446744073709551616) R6 zo ?_;refine Zb ?_;refine retF [gZ .u64 _,gZ .u64 _] rfl rfl R2 ?_;have f:(x*y%18446744073709551616+c+0)%18446744073709551616=(x*y+c)%18446744073709551616:=zo;have g:x*y/18446744073709551616+(x*y%18446744073709551616+c+0)/18446744073709551616=(x*y+c)/18446744073709551616:=zo;rw [←f,←g];rfl
theorem zeb {x:Nat}(hx:x<18446744073709551616)(h0:x≠0):some (gZ .u64 (Ai .u64 (0-(x:Int))))=some (gZ .u64 ((18446744073709551616-x:Nat):Int)):=by
 have e:Ai .u64 (0-(x:Int))=((18446744073709551616-x:Nat):Int):=by
  simp only [Ai,Cj,BJ];simp;omega
 rw [e]
theorem zqq {i s:Nat}(a:i<64)(b:Fm.getD i 0=s):GK.d64[0+(i:Int).toNat*1]?=some (gZ .u8 (s:Int)):=by
 have a:i<gP Fm:=a;rw [zqp,show 0+(i:Int).toNat*1=i from zo,As,kF a];rw [List.getD_eq_getElem?_getD,kF a] at b;simp only [Option.getD_some] at b;rw [b];rfl
theorem gW (k:Nat){h:HF}(p:GK.G h)(n:Nat){x:Nat}(hx:x<18446744073709551616)(h0:x≠0):VF (cal (k+1)) 205 [gZ .u64 (x:Int)] h n fun v=>∃s:Nat,v=gZ .i64 (s:Int)∧s<64∧∃o,x=2^s*o∧o%2=1:=by
 refine zO (fn:=Tryz.f205) R4 ?_;obtain ⟨d,f⟩:x&&& (18446744073709551616-x)=2^GM 64 x∧GM 64 x<64:=Lib.lowest_bit 64 x h0 hx;have l:GM 64 x=Lib.ctzFrom 64 x:=by unfold GM;rw [eP h0]
 obtain ⟨m,c,_⟩:=Lib.ctzFrom_spec 64 x zo hx;rw [←l] at c;obtain ⟨e,g⟩:=Lib.deBruijn64_at (GM 64 x) f;generalize GM 64 x=s at d f c e g;have j:∃o,x=2^s*o∧o%2=1:=⟨2*m+1,c,by clear c d;omega⟩;clear c l;refine Zd ?_;refine Zl ?_;refine Zc ?_;refine zS (v:=gZ .u64 ((18446744073709551616-x:Nat):Int)) R4 (zeb hx h0) ?_;refine mF (a:=x) (b:=18446744073709551616-x) rfl rfl rfl rfl rfl rfl zo ?_;rw [d];clear d;refine wk (a:=2^s) (b:=285870213051353865) R6 ?_;refine yn (a:=2^s*285870213051353865%18446744073709551616) (s:=58) R6 zd ?_;rw [show (2:Nat)^58=288230376151711744 from rfl];generalize 2^s*285870213051353865%18446744073709551616/288230376151711744=i at e g ⊢;refine fk R8 ⟨Dn _,Ek.2 e⟩ ?_;have q:=zqq e g;refine zT R6 p.1 (v:=gZ .u8 (s:Int)) ⟨rfl,q⟩ ?_;refine vj (a:=(s:Int)) R7 zo ?_;refine Zb ?_;exact retF _ rfl (zi rfl) R2 ⟨s,rfl,f,j⟩
theorem zbi (k:Nat){h:HF}(A:GK.G h)(n:Nat){x y:Nat}(hx:x<18446744073709551616)(I:y<18446744073709551616):VF (cal (k+2)) 174 [gZ .u64 (x:Int),gZ .u64 (y:Int)] h n fun v=>v=gZ .u64 ((rp x y:Nat):Int):=by
 refine zO (fn:=Tryz.f174) R4 ?_;have H:x|||y<18446744073709551616:=Nat.or_lt_two_pow (n:=64) hx I;refine Zd ?_;by_cases hx0:x=0
 ·subst hx0;refine Zx ?_;refine wG (a:=0) (b:=y) R6 zo ?_;refine Zb ?_;exact retF _ rfl (zi rfl) R2 (by rw [Nat.gcd_zero_left,Nat.zero_or];rfl)
 by_cases hy0:y=0
 ·subst hy0;refine Zx ?_;refine wG (a:=x) (b:=0) R6 zo ?_;refine Zb ?_;exact retF _ rfl (zi rfl) R2 (by rw [CS,Nat.or_zero];rfl)
 have C:x|||y≠0:=fun e=>hx0 (Gu.1 e).1;refine Zl ?_;refine Zc ?_;refine wG (a:=x) (b:=y) R6 zo ?_;refine yi _ R5 (gW k A n H C) ?_;rintro _ ⟨s,rfl,U,D⟩;refine Zu ?_;refine yi _ R5 (gW k A n hx hx0) ?_;rintro _ ⟨J,rfl,R,d,u,q⟩;refine yn (a:=x) (s:=J) R6 zo ?_;have i:x/2^J=d:=by rw [u];exact BX _ (AW zo)
 have M:d≤x:=by rw [←i];exact A3 _ _
 rw [i];refine Zb ?_;have B:=zex (s:=s) D u q;refine ye (α:=Nat×Nat) (fun z=>[(0,gZ .u64 (z.1:Int)),(1,gZ .u64 (z.2:Int)),(5,gZ .i64 (s:Int))]) (fun z L O w=>h=L∧n=O∧w=[]∧z.1%2=1∧z.1<18446744073709551616∧z.2<18446744073709551616∧rp z.1 z.2=rp d y) (fun z=>z.1+z.2) (d,y) ⟨rfl,rfl,rfl,eT⟩ ⟨rfl,rfl,rfl,q,by show d<_;omega,I,rfl⟩ (by show d+y<LL;unfold LL;omega) ?_;rintro ⟨a,b⟩ t _ _ _ ⟨rfl,rfl,rfl,F,m,o,j⟩;simp only at F m o j;refine zN ?_;by_cases hb0:b=0
 ·subst hb0;refine Zl ?_;rw [CS] at j;refine Zc ?_;refine xK (a:=a) (s:=s) R6 zo ?_;refine Zb ?_;refine retF _ rfl (zi rfl) R2 ?_;show gZ .u64 _=gZ .u64 _;have P:rp x y≤x:=Nat.gcd_le_left _ zo;rw [j,pe,B,Ab zo]
 refine Zx ?_;refine yi _ R5 (gW k A n o hb0) ?_;rintro _ ⟨K,rfl,S,z,p,N⟩;refine yn (a:=b) (s:=K) R6 zo ?_;have c:b/2^K=z:=by rw [p];exact BX _ (AW zo)
 have T:z≤b:=by rw [←c];exact A3 _ _
 rw [c];obtain ⟨l,f,g⟩:=zey F p N;refine Zb ?_;by_cases hgt:z<a
 ·rw [Fw zo] at l f g;rw [Ho zo] at f g;refine Zq ?_;refine Zc ?_;refine ym (a:=a) (b:=z) R6 zo ?_;refine Zb ?_;exact goOn (z,a-z) g ⟨rfl,rfl,rfl,eT⟩ ⟨rfl,rfl,rfl,l,by show z<_;omega,by show a-z<_;omega,f.trans j⟩
 rw [AN zo] at l f g;rw [G3 zo] at f g;refine Zl ?_;refine Zc ?_;refine ym (a:=z) (b:=a) R6 zo ?_;refine Zb ?_;exact goOn (a,z-a) g ⟨rfl,rfl,rfl,eT⟩ ⟨rfl,rfl,rfl,l,m,by show z-a<_;omega,f.trans j⟩
end Go.Proofs.YtepkmadmigkgmaaGreatDoor
namespace Go.Proofs.YtepkmadmigkgmaaGreatDoor
variable {top v1 v2 vr w2 wr B P h r:Nat}
theorem oJ {a b c P:Nat}(d:a*P≤b)(e:b<c*P):a<c:=by
 apply tp;intro f;have:c*P≤a*P:=o0 P zo;omega
theorem kB (d:0<v1)(e:w2<B)(f:wr<P):((top*B+w2)*P+wr)/((v1*B+v2)*P+vr)≤top/v1:=by
 generalize hQ:((top*B+w2)*P+wr)/((v1*B+v2)*P+vr)=Q;have a:Q*((v1*B+v2)*P+vr)≤(top*B+w2)*P+wr:=by rw [←hQ];exact Gc _ _
 rw [DA d];have b:(Q*v1)*(B*P)≤Q*((v1*B+v2)*P+vr):=by
  rw [Ah];apply s9;rw [←Ah,An];omega
 have c:(top*B+w2)*P+wr<(top+1)*(B*P):=by
  have:(top*B+w2+1)*P≤(top*B+B)*P:=o0 _ zo;rw [An _ 1,BR] at this;rw [←Ah,An top,BR];omega
 have:=oJ (Aa b a) c;omega
theorem ek (f:w2<B)(g:wr<P)(e:h*v1+r=top)(j:r*B+w2<h*v2):((top*B+w2)*P+wr)/((v1*B+v2)*P+vr)<h:=by
 generalize hQ:((top*B+w2)*P+wr)/((v1*B+v2)*P+vr)=Q;have b:Q*((v1*B+v2)*P+vr)≤(top*B+w2)*P+wr:=by rw [←hQ];exact Gc _ _
 apply tp;intro l;have c:(h*(v1*B+v2))*P≤Q*((v1*B+v2)*P+vr):=by
  have a:h*((v1*B+v2)*P)≤Q*((v1*B+v2)*P+vr):=Ar zo zo;rw [Ah];exact a
 have a:(top*B+w2)*P+wr<(top*B+w2+1)*P:=by rw [An _ 1,BR];omega
 have d:=oJ (Aa c b) a;rw [←e,Ap,An] at d;have i:h*(v1*B)=h*v1*B:=by rw [Ah]
 omega
theorem zkq (c:0<v1)(e:0<B)(g:vr<P)(f:h*v1+r=top)(m:h*v2≤r*B+w2)(o:h<B):h≤((top*B+w2)*P+wr)/((v1*B+v2)*P+vr)+1:=by
 have a:0<(v1*B+v2)*P+vr:=by
  have:0<v1*B:=CP c e;have:0<(v1*B+v2)*P:=CP zo zo;omega
 have i:(h*(v1*B+v2))*P≤(top*B+w2)*P:=by
  apply o0;rw [←f,Ap,An];have b:h*(v1*B)=h*v1*B:=by rw [Ah]
  omega
 have j:h*vr≤B*P:=Ar zo zo;have l:B*P≤(v1*B+v2)*P:=o0 _ (by
  have:1*B≤v1*B:=o0 _ c;omega)
 have d:h*((v1*B+v2)*P+vr)≤((top*B+w2)*P+wr)+((v1*B+v2)*P+vr):=by
  rw [Ap,←Ah];omega
 have b:h≤(((top*B+w2)*P+wr)+((v1*B+v2)*P+vr))/((v1*B+v2)*P+vr):=by
  rw [DA a];exact d
 rw [Nat.add_div_right _ a] at b;exact b
theorem zp7 (e:vr<P)(d:v2<B)(c:(top*B+w2)*P+wr<B*((v1*B+v2)*P+vr)):top≤v1*B+v2:=by
 have a:top*(B*P)≤(top*B+w2)*P+wr:=by
  rw [←Ah,An];omega
 have b:B*((v1*B+v2)*P+vr)≤(v1*B+v2+1)*(B*P):=by
  rw [Be];apply s9;rw [An _ 1,BR];omega
 have:=oJ a (Af c b);omega
theorem zky {B:Nat}{l:List Nat}{m x y:Nat}(d:gP l=m+2)(hx:l[m+1]?=some x)(c:l[m]?=some y):dv B l=(x*B+y)*B^m+dv B (l.take m):=by
 have a:=wJ (B:=B) hx;have b:=wJ (B:=B) c;rw [pq zo] at a;rw [a,b,An,Ac,pe (B^m) y,Ah x B,pe B,pe x];omega
theorem zit {B:Nat}{l:List Nat}{m x y z:Nat}(f:gP l=m+3)(hx:l[m+2]?=some x)(c:l[m+1]?=some y)(d:l[m]?=some z):dv B l=((x*B+y)*B+z)*B^m+dv B (l.take m):=by
 have a:=wJ (B:=B) hx;rw [pq zo] at a;have b:=zky (B:=B) (l:=l.take (m+2)) (m:=m) (x:=y) (y:=z) (by rw [sn];omega) (by rw [BA zo];exact c) (by rw [BA zo];exact d);rw [Ej,AN zo] at b;rw [a,b,An,An,An,An,Bf,show B^2=B*B from by rw [Ac,Nat.pow_one]];have e:B^m*(B*B)*x=x*B*B*B^m:=by
  rw [pe (B^m*(B*B)) x,pe (B^m),←Ah,←Ah]
 rw [e];omega
end Go.Proofs.YtepkmadmigkgmaaGreatDoor
namespace Go.Proofs.YtepkmadmigkgmaaGreatDoor
open Go Go.GL
variable {n1 n K m vc bu j top v1 v2 id n' uc bv hh rc r s:Nat}{w V U W T:List Nat}{qv sv vb vd ve v:Value}{e ty:TypeId}{ops:Array Oper}{va ua:Option Addr}{E:Env}{o:Oper}{x:Operand}
variable {h h':HF}
def subC:List Nat→Code→Option Code
 |[],c=>some c
 |0::p,.seq a _=>subC p a
 |1::p,.seq _ b=>subC p b
 |0::p,.cond _ a _=>subC p a
 |1::p,.cond _ _ b=>subC p b
 |0::p,.block _ b=>subC p b
 |0::p,.loop b=>subC p b
 |0::p,.scope b=>subC p b
 |_,_=>none
def zjf (f:Func)(p:List Nat):Option Code:=match f.body with|some b=>subC p b|none=>none
section
variable {h:HF}{t:TF}
set_option maxRecDepth 100000
end
theorem zks {w q:Nat}(a:q*v1+r=top)(c:0<v1*4294967296+v2)(b:(top*4294967296+w)/(v1*4294967296+v2)≤q)(d:q*v2≤r*4294967296+w):q=(top*4294967296+w)/(v1*4294967296+v2):=by
 apply Nat.le_antisymm _ b;rw [DA c,←a];have e:q*(v1*4294967296+v2)=q*v1*4294967296+q*v2:=by rw [Ap,Ah]
 rw [e,An];omega
section
variable {h:HF}{t:TF}{va vc:Value}
set_option maxRecDepth 100000
theorem zbr {w2:Nat}(I:2147483648≤v1∧v1<4294967296)(T:v2<4294967296)(C:w2<4294967296)(A:top<v1*4294967296+v2)
  {c:Code}(F:zjf E2 [1,1,1,1,1,1,1,1,1,1,1,1,1,1,0]=some c){Q:Ex→SV→Prop}
  (M:tJ t [(2,va),(8,vb),(11,vc),(14,vd),(9,gZ .u64 (v1:Int)),(10,gZ .u64 (v2:Int)),(13,gZ .u64 (w2:Int)),(15,gZ .u64 ((top/v1:Nat):Int)),(16,gZ .u64 ((top%v1:Nat):Int))])
  (y:∀(t':TF) (g:Nat),g=(top*4294967296+w2)/(v1*4294967296+v2)→tJ t' [(2,va),(8,vb),(11,vc),(14,vd),(9,gZ .u64 (v1:Int)),(10,gZ .u64 (v2:Int)),(13,gZ .u64 (w2:Int)),(15,gZ .u64 (g:Int))]→Q .normal ⟨t',h,n1,w⟩):EC (ctx K n (E2).ntmps) c ⟨t,h,n1,w⟩ Q:=by
 obtain rfl:=Bx (F.symm.trans (rfl:zjf E2 [1,1,1,1,1,1,1,1,1,1,1,1,1,1,0]=some _));clear F;have d:top%v1<v1:=Az _ zo;have o:=kB (B:=4294967296) (P:=1) (v1:=v1) (v2:=v2) (vr:=0) (w2:=w2) (wr:=0) (top:=top) zo C zo;have s:∀a b:Nat,a*v1+b=top→b*4294967296+w2<a*v2→(top*4294967296+w2)/(v1*4294967296+v2)<a:=fun a b v p=>by
  have:=ek (B:=4294967296) (P:=1) (v1:=v1) (v2:=v2) (vr:=0) (w2:=w2) (wr:=0) (top:=top) C zo v p;simpa using this
 simp only [AH,AJ] at o;have G:(top*4294967296+w2)/(v1*4294967296+v2)<4294967296:=by
  rw [Bk zo];have:(top+1)*4294967296≤(v1*4294967296+v2)*4294967296:=o0 _ A;rw [pe 4294967296];omega
 generalize hgg:(top*4294967296+w2)/(v1*4294967296+v2)=g at o G s;have m:∀q r:Nat,q*v1+r=top→g≤q→q*v2≤r*4294967296+w2→q=g:=fun q r v p J=>by
  rw [←hgg] at p ⊢;exact zks v zo p J
 refine zN ?_;refine ye (α:=Nat×Nat) (fun z=>[(2,va),(8,vb),(11,vc),(14,vd),(9,gZ .u64 (v1:Int)),(10,gZ .u64 (v2:Int)),(13,gZ .u64 (w2:Int)),(15,gZ .u64 (z.1:Int)),(16,gZ .u64 (z.2:Int))])
  (fun z L N O=>h=L∧n1=N∧w=O∧z.1*v1+z.2=top∧g≤z.1∧z.2<4294967296) (fun z=>z.1) (top/v1,top%v1) M ⟨rfl,rfl,rfl,by rw [pe];exact AE _ _,o,by show _%_<_;omega⟩ (by show top/v1<LL;have:top/v1≤top:=A3 _ _;unfold LL;omega) ?_
 rintro ⟨a,b⟩ Z _ _ _ ⟨rfl,rfl,rfl,f,u,H⟩;simp only at f u H;have R:a<18446744073709551616:=by
  have D:a*2147483648≤a*v1:=s9 _ I.1;omega
 have e:g<a→(a-1)*v1+(b+v1)=top:=fun d=>by
  obtain ⟨x,rfl⟩:∃x,a=x+1:=⟨a-1,zo⟩;rw [An,BR] at f;simp only [BM];omega
 have l:g<a→4294967296≤b+v1→a-1=g:=fun d i=>by
  have D:=e d;have U:a-1<4294967296:=by
   apply tp;intro Y;have:4294967296*v1≤(a-1)*v1:=o0 _ zo;omega
  refine m _ _ D zo ?_;have V:(a-1)*v2≤4294967296*4294967296:=Ar zo zo;have W:4294967296*4294967296≤(b+v1)*4294967296:=o0 _ i;omega
 refine zN ?_;by_cases hB:4294967296≤a
 ·repeat refine zW ?_
  refine zN ?_;rw [ze rfl];refine zN ?_;repeat refine zW ?_
  refine zN ?_;repeat refine zW ?_
  refine zN ?_;by_cases i:4294967296≤b+v1
  ·repeat refine zW ?_
   refine zN ?_;rw [ze rfl];refine zN ?_;have j:=l zo i;exact y _ g hgg.symm ⟨rfl,rfl,rfl,rfl,rfl,rfl,rfl,by show gZ .u64 _=gZ .u64 _;rw [j],eT⟩
  repeat refine zW ?_
  refine zN ?_;rw [za rfl];refine zN ?_;exact goOn (a-1,b+v1) (by show a-1<a;omega) ⟨rfl,rfl,rfl,rfl,rfl,rfl,rfl,rfl,rfl,eT⟩ ⟨rfl,rfl,rfl,e zo,by show g≤a-1;omega,by show b+v1<_;omega⟩
 have S:a*v2≤4294967295*4294967295:=Ar zo zo;by_cases htest:4294967296*b+w2<a*v2
 ·have d:=s a b f zo;repeat refine zW ?_
  refine zN ?_;first
   |rw [ze rfl]
   |rw [ze (by show jx (decide _)=_;rw [eH (Ek.2 htest)])]
  refine zN ?_;repeat refine zW ?_
  refine zN ?_;repeat refine zW ?_
  refine zN ?_;by_cases i:4294967296≤b+v1
  ·repeat refine zW ?_
   refine zN ?_;rw [ze rfl];refine zN ?_;have j:=l d i;exact y _ g hgg.symm ⟨rfl,rfl,rfl,rfl,rfl,rfl,rfl,by show gZ .u64 _=gZ .u64 _;rw [j],eT⟩
  repeat refine zW ?_
  refine zN ?_;rw [za rfl];refine zN ?_;exact goOn (a-1,b+v1) (by show a-1<a;omega) ⟨rfl,rfl,rfl,rfl,rfl,rfl,rfl,rfl,rfl,eT⟩ ⟨rfl,rfl,rfl,e d,by show g≤a-1;omega,by show b+v1<_;omega⟩
 repeat refine zW ?_
 refine zN ?_;first
  |rw [za rfl]
  |rw [za (by show jx (decide _)=_;rw [cA (fun h=>htest (Ek.1 h))])]
 refine zN ?_;have j:=m a b f u zo;exact y _ g hgg.symm ⟨rfl,rfl,rfl,rfl,rfl,rfl,rfl,by show gZ .u64 _=gZ .u64 _;rw [j],eT⟩
theorem zbq {w2:Nat}(I:2147483648≤v1∧v1<4294967296)(T:v2<4294967296)(C:w2<4294967296)(A:top<v1*4294967296+v2)
  {c:Code}(F:zjf E2 [1,1,1,1,1,1,1,1,1,1,1,1,1,1,1,1,1,1,0]=some c){Q:Ex→SV→Prop}
  (M:tJ t [(2,va),(8,vb),(15,vc),(17,vd),(9,gZ .u64 (v1:Int)),(10,gZ .u64 (v2:Int)),(14,gZ .u64 (w2:Int)),(18,gZ .u64 ((top/v1:Nat):Int)),(16,gZ .u64 ((top%v1:Nat):Int))])
  (y:∀(t':TF) (g:Nat),g=(top*4294967296+w2)/(v1*4294967296+v2)→tJ t' [(2,va),(8,vb),(15,vc),(17,vd),(9,gZ .u64 (v1:Int)),(10,gZ .u64 (v2:Int)),(14,gZ .u64 (w2:Int)),(18,gZ .u64 (g:Int))]→Q .normal ⟨t',h,n1,w⟩):EC (ctx K n (E2).ntmps) c ⟨t,h,n1,w⟩ Q:=by
 obtain rfl:=Bx (F.symm.trans (rfl:zjf E2 [1,1,1,1,1,1,1,1,1,1,1,1,1,1,1,1,1,1,0]=some _));clear F;have d:top%v1<v1:=Az _ zo;have o:=kB (B:=4294967296) (P:=1) (v1:=v1) (v2:=v2) (vr:=0) (w2:=w2) (wr:=0) (top:=top) zo C zo;have s:∀a b:Nat,a*v1+b=top→b*4294967296+w2<a*v2→(top*4294967296+w2)/(v1*4294967296+v2)<a:=fun a b v p=>by
  have:=ek (B:=4294967296) (P:=1) (v1:=v1) (v2:=v2) (vr:=0) (w2:=w2) (wr:=0) (top:=top) C zo v p;simpa using this
 simp only [AH,AJ] at o;have G:(top*4294967296+w2)/(v1*4294967296+v2)<4294967296:=by
  rw [Bk zo];have:(top+1)*4294967296≤(v1*4294967296+v2)*4294967296:=o0 _ A;rw [pe 4294967296];omega
 generalize hgg:(top*4294967296+w2)/(v1*4294967296+v2)=g at o G s;have m:∀q r:Nat,q*v1+r=top→g≤q→q*v2≤r*4294967296+w2→q=g:=fun q r v p J=>by
  rw [←hgg] at p ⊢;exact zks v zo p J
 refine zN ?_;refine ye (α:=Nat×Nat) (fun z=>[(2,va),(8,vb),(15,vc),(17,vd),(9,gZ .u64 (v1:Int)),(10,gZ .u64 (v2:Int)),(14,gZ .u64 (w2:Int)),(18,gZ .u64 (z.1:Int)),(16,gZ .u64 (z.2:Int))])
  (fun z L N O=>h=L∧n1=N∧w=O∧z.1*v1+z.2=top∧g≤z.1∧z.2<4294967296) (fun z=>z.1) (top/v1,top%v1) M ⟨rfl,rfl,rfl,by rw [pe];exact AE _ _,o,by show _%_<_;omega⟩ (by show top/v1<LL;have:top/v1≤top:=A3 _ _;unfold LL;omega) ?_
 rintro ⟨a,b⟩ Z _ _ _ ⟨rfl,rfl,rfl,f,u,H⟩;simp only at f u H;have R:a<18446744073709551616:=by
  have D:a*2147483648≤a*v1:=s9 _ I.1;omega
 have e:g<a→(a-1)*v1+(b+v1)=top:=fun d=>by
  obtain ⟨x,rfl⟩:∃x,a=x+1:=⟨a-1,zo⟩;rw [An,BR] at f;simp only [BM];omega
 have l:g<a→4294967296≤b+v1→a-1=g:=fun d i=>by
  have D:=e d;have U:a-1<4294967296:=by
   apply tp;intro Y;have:4294967296*v1≤(a-1)*v1:=o0 _ zo;omega
  refine m _ _ D zo ?_;have V:(a-1)*v2≤4294967296*4294967296:=Ar zo zo;have W:4294967296*4294967296≤(b+v1)*4294967296:=o0 _ i;omega
 refine zN ?_;by_cases hB:4294967296≤a
 ·repeat refine zW ?_
  refine zN ?_;rw [ze rfl];refine zN ?_;repeat refine zW ?_
  refine zN ?_;repeat refine zW ?_
  refine zN ?_;by_cases i:4294967296≤b+v1
  ·repeat refine zW ?_
   refine zN ?_;rw [ze rfl];refine zN ?_;have j:=l zo i;exact y _ g hgg.symm ⟨rfl,rfl,rfl,rfl,rfl,rfl,rfl,by show gZ .u64 _=gZ .u64 _;rw [j],eT⟩
  repeat refine zW ?_
  refine zN ?_;rw [za rfl];refine zN ?_;exact goOn (a-1,b+v1) (by show a-1<a;omega) ⟨rfl,rfl,rfl,rfl,rfl,rfl,rfl,rfl,rfl,eT⟩ ⟨rfl,rfl,rfl,e zo,by show g≤a-1;omega,by show b+v1<_;omega⟩
 have S:a*v2≤4294967295*4294967295:=Ar zo zo;by_cases htest:4294967296*b+w2<a*v2
 ·have d:=s a b f zo;repeat refine zW ?_
  refine zN ?_;first
   |rw [ze rfl]
   |rw [ze (by show jx (decide _)=_;rw [eH (Ek.2 htest)])]
  refine zN ?_;repeat refine zW ?_
  refine zN ?_;repeat refine zW ?_
  refine zN ?_;by_cases i:4294967296≤b+v1
  ·repeat refine zW ?_
   refine zN ?_;rw [ze rfl];refine zN ?_;have j:=l d i;exact y _ g hgg.symm ⟨rfl,rfl,rfl,rfl,rfl,rfl,rfl,by show gZ .u64 _=gZ .u64 _;rw [j],eT⟩
  repeat refine zW ?_
  refine zN ?_;rw [za rfl];refine zN ?_;exact goOn (a-1,b+v1) (by show a-1<a;omega) ⟨rfl,rfl,rfl,rfl,rfl,rfl,rfl,rfl,rfl,eT⟩ ⟨rfl,rfl,rfl,e d,by show g≤a-1;omega,by show b+v1<_;omega⟩
 repeat refine zW ?_
 refine zN ?_;first
  |rw [za rfl]
  |rw [za (by show jx (decide _)=_;rw [cA (fun h=>htest (Ek.1 h))])]
 refine zN ?_;have j:=m a b f u zo;exact y _ g hgg.symm ⟨rfl,rfl,rfl,rfl,rfl,rfl,rfl,by show gZ .u64 _=gZ .u64 _;rw [j],eT⟩
end
section
variable {h:HF}{t:TF}
set_option maxRecDepth 100000
end
theorem zcy {a x:Value}(b:uG E ty a x h n=some (.val v h' n' W)):n'=n:=by
 unfold uG at b;split at b
 ·split at b
  ·split at b
   ·injection b with b;injection b with _ _ e _;exact e.symm
   cases b
  cases b
 cases b
theorem jz {a x:Value}{r:RF}(b:uG E ty a x h n=some r):∃v h' n' W,r=.val v h' n' W:=by
 unfold uG at b;split at b
 ·split at b
  ·split at b
   ·injection b with b;subst b;exact ⟨_,_,_,_,rfl⟩
   cases b
  cases b
 cases b
theorem ie:∀{l:List (Nat×Nat)},xJ m l=true→ya m W l=true:=by
 intro l;induction l with
 |nil=>intro _;rfl
 |cons x l ih=>
  intro h;obtain ⟨i,b⟩:=x;unfold xJ at h;split at h
  ·rename_i hb;unfold ya;rw [hb,GP];exact ih h
  cases h
def qJ (m:Nat):Nat→Bool
 |0=>true
 |i+1=>m.testBit i&&qJ m i
theorem dH:∀{i j:Nat},qJ m i=true→j<i→m.testBit j=true:=by
 intro i;induction i with
 |zero=>intro j _ a;omega
 |succ i ih=>
  intro j h a;simp only [qJ,AA] at h;by_cases e:j=i
  ·rw [e];exact h.1
  exact ih h.2 zo
theorem zjj:∀{l:List (Nat×Nat)},(∀x∈l,m.testBit x.1=true)→xJ m l=true:=by
 intro l;induction l with
 |nil=>intro _;rfl
 |cons x l ih=>
  intro h;obtain ⟨i,b⟩:=x;unfold xJ;rw [h (i,b) gN];exact ih fun y a=>h y (by simp [a])
theorem zbk {X:CtxF}{ops:List Oper}{a:Operand}{A:Nat}(I:o.op=.store ty a x):∀(l:List Oper) (ms:List Nat) (i:Nat) (s:SV) (e:List (Nat×Nat)),gP l=gP ms→l.all (fun o=>qOp X.E o.op)=true→qJ A (i+gP l)=true→(∀y∈e,y.1<i)→z0 X ops (l++[o]) (ms++[A]) i ⟨s,[],e,[]⟩=seqF X ops (l++[o]) s:=by
 intro l;induction l with
 |nil=>
  intro ms i s e C _ G B;have:ms=[]:=vT.1 (by simpa using C.symm);subst this;show z0 X ops [o] [A] i ⟨s,[],e,[]⟩=seqF X ops [o] s;unfold z0 seqF;simp only;cases hw:zh ops s.t o with
  |false=>simp only [z0,seqF]
  |true=>
   simp only;have u:cls o.op=3:=by rw [I];rfl
   unfold rL opF;simp only [u,xq,xJ,AV];unfold mf;have K:effF X.E o.op (evF s.t) s.h s.n=uG X.E ty (evF s.t a) (evF s.t x) s.h s.n:=by rw [I];rfl
   rw [K];cases he:uG X.E ty (evF s.t a) (evF s.t x) s.h s.n with
   |none=>rfl
   |some r=>
    obtain ⟨v,h',n',W,rfl⟩:=jz he;have L:=zcy he;subst L;simp only;have J:ya A W e=true:=ie (zjj fun y g=>dH (by simpa using G) (B y g));unfold xH;split
    ·simp only [J,oo eU,AV,z0,seqF]
    rfl
 |cons p l ih=>
  intro ms i s e C w G B;cases ms with
  |nil=>simp at C
  |cons m ms=>
   simp only [Gk,AA] at w;have j:gP l=gP ms:=by simpa using C
   have q:qJ A (i+1+gP l)=true:=by rw [show i+1+gP l=i+gP (p::l) from by simp;omega];exact G
   have f:∀y∈e,y.1<i+1:=fun y g=>by have:=B y g;omega
   show z0 X ops (p::(l++[o])) (m::(ms++[A])) i ⟨s,[],e,[]⟩=seqF X ops (p::(l++[o])) s;unfold z0 seqF;simp only;cases hw:zh ops s.t p with
   |false=>
    simp only;congr 1;funext s1;exact ih ms (i+1) s1 e j w.2 q f
   |true=>
    simp only;unfold rL opF;rcases zd0 w.1 with M|⟨t,d,x,k,D,F⟩
    ·cases u:cls p.op with
     |zero=>
      simp only [u];cases yy X.E p.op (evF s.t) with
      |none=>rfl
      |some v=>
       simp only;congr 1;funext s1;exact ih ms (i+1) s1 e j w.2 q f
     |succ c=>
      cases c with
      |zero=>
       simp only [u,wn];cases po X.E p.op (evF s.t) s.h with
       |none=>rfl
       |some vb=>
        obtain ⟨v,b⟩:=vb;simp only [vC,qn,AV];congr 1;funext s1;exact ih ms (i+1) s1 _ j w.2 q fun y g=>by
         rcases Ad.1 g with rfl|g
         ·show i<i+1;omega
         exact f y g
      |succ c=>omega
    have u:cls p.op=4:=by rw [D];rfl
    have H:mkE X.E p.op (evF s.t)=none:=by rw [D];exact sQ F _
    simp only [u,H];cases hpu:yy X.E p.op (evF s.t) with
    |none=>
     rw [D];simp only [vJ F]
    |some v=>
     rw [D];simp only [vJ F];congr 1;funext s1;exact ih ms (i+1) s1 e j w.2 q f
def zkp (ops:List Oper)(E:Env):Bool:=(match ops.reverse with|o::r=>(match o.op with| .store _ _ _=>r.all (fun o=>qOp E o.op)&&qJ ((xA ops []).getLastD 0) (gP r)|_=>false)|[]=>false)
theorem zjp {X:CtxF}{s:SV}{Q:Ex→SV→Prop}(b:zkp ops.toList X.E=true):EC X (.region id ops true) s Q↔EO X ops.toList ops.toList s (Q .normal):=by
 unfold EC EO;rw [xk];have l:z0 X ops.toList ops.toList (xA ops.toList []) 0 ⟨s,[],[],[]⟩=seqF X ops.toList ops.toList s:=by
  unfold zkp at b;split at b
  ·rename_i o r hr;split at b
   ·rename_i ty a x ho;simp only [AA] at b;have g:ops.toList=r.reverse++[o]:=by
     have:=congrArg List.reverse hr;simpa using this
    have c:gP (xA ops.toList [])=gP r+1:=by rw [oL,g];simp
    obtain ⟨f,d,j⟩:∃f d,xA ops.toList []=f++[d]:=⟨(xA ops.toList []).dropLast,(xA ops.toList []).getLast (by intro e;rw [e] at c;simp at c),(Dv _).symm⟩;rw [j] at b c ⊢;have i:(f++[d]).getLastD 0=d:=by simp
    rw [i] at b;have:=zbk (X:=X) (ops:=ops.toList) ho r.reverse f 0 s [] (by simp at c ⊢;omega) (by simpa using b.1) (by simpa using b.2) (fun y p=>eN p og);rw [←g] at this;exact this
   cases b
  cases b
 rw [l];cases h:seqF X ops.toList ops.toList s with
 |none=>simp
 |some r=>simp only [vH];simp
theorem zon {α:Type}{X:CtxF}{a:Code}{s:SV}{Q:Ex→SV→Prop}(b:α→List (Nat×Value))(I:α→HF→Nat→List Nat→Prop)(j:EC X a s (cutx b I Q))(hb:∀z t h n w,I z h n w→Q .normal ⟨gk t (b z),h,n,w⟩):EC X a s Q:=by
 refine sW j fun e c d=>?_;cases e with
 |normal=>
  obtain ⟨z,f,g⟩:=d;have:=hb z c.t c.h c.n c.w g;rw [wU f] at this;exact this
 |exit i=>exact d
 |ret=>exact d
section
variable {h:HF}{t:TF}{R:List Nat}
set_option maxRecDepth 100000
end
end Go.Proofs.YtepkmadmigkgmaaGreatDoor
namespace Go.Proofs.YtepkmadmigkgmaaGreatDoor
end Go.Proofs.YtepkmadmigkgmaaGreatDoor
namespace Go.Proofs.YtepkmadmigkgmaaGreatDoor
open Go Go.GL
variable {ops:List Oper}{n m bytes size i c1 c2 k cap len sz lo n' c' cX l1 l2 n0 n1 bv bu bq vc b j V a d r L l P U K M:Nat}{w ms A C U0:List Nat}{o:Oper}{e ty xT e3 eq:TypeId}{a1 a2:Option Addr}{al:List (Nat×Nat)}{z sv v:Value}{args new cs c:List Value}{body:Code}{ji:Int}{ik:IntKind}{fn:Func}{s:List UInt8}{x:Operand}{f:FuncId}{E:Env}
variable {h h':HF}{sT:TypeId}
section
variable {h:HF}{t:TF}{V:List Nat}
set_option maxRecDepth 100000
end
theorem rV:∀l:List Nat,l.take (gP (yf l))=yf l:=
 wF (fun l ih=>by rw [wi,List.take_append_of_le_length (xU l)];exact ih) (fun l d a=>by rw [xy l a,xd]) rfl
section
variable {h:HF}{t:TF}
set_option maxRecDepth 100000
end
section
set_option maxRecDepth 100000
end
section
variable {X:CtxF}{r:List Oper}{t:TF}{h:HF}{Q:SV→Prop}{d:Tmp}
theorem st_mul {ty e:TypeId}{x y:Operand}{a b:Int}(j:zh ops t o=true)(f:o.dst=some d)(g:zv X.nt (some d)=true)(c:o.op=.binOp .mul ty x y e)(hx:evF t x=gZ .i64 a)(l:evF t y=gZ .i64 b)(i: -9223372036854775808≤a*b∧a*b<9223372036854775808)
  (k:EO X ops r ⟨upd t d (gZ .i64 (a*b)),h,n,w⟩ Q):EO X ops (o::r) ⟨t,h,n,w⟩ Q:=by
 refine zS ⟨j,f,g,(by rw [c];rfl)⟩ ?_ k;rw [c];show binE X.E .mul ty (evF t x) (evF t y)=_;rw [hx,l];show some (gZ .i64 (Ai .i64 (a*b)))=_;rw [xj i]
end
def Off (b:Nat):Value→Prop
 | gS (some a) _ _=>a.block≠b
 |_=>True
theorem Sl.off {x:Option BF}(s:Sl h n sz v c)(d:Off b v):Sl (upd h b x) n sz v c:=
 s.keep (fun a l f e=>by subst e;exact zm d) eU
theorem Below.off (h:Below m v)(hb:3*m≤b):Off b v:=by
 unfold Below at h;unfold Off;split<;>simp_all;omega
theorem xC.off (h:xC m v)(hb:b<3*m):Off b v:=by
 unfold xC at h;unfold Off;split<;>simp_all;omega
def Away (n:Nat)(c0 v:Value):Prop:=(v=c0∧Below n v)∨xC (n+1+1+1) v
structure FrS (n:Nat)(c0 d0:Value)(h h':HF)(n':Nat)(c1 c2 d1 d2:Value)(x y:Int)(A C:List Nat):Prop where
 n3:n+1+1+1≤n'
 ext:Ext n h h'
 b2:∃e,h' (3*n+2)=some (.row [c1,c2] e)
 b3:∃e,h' (3*(n+1)+2)=some (.row [d1,d2] e)
 b4:∃e,h' (3*(n+1+1)+2)=some (.row [jx false,gS none 0 0,jx false,gS none 0 0] e)
 ix:IntR h' n' c1 c2 x A
 iy:IntR h' n' d1 d2 y C
 ox:Away n c0 c2
 oy:Away n d0 d2
structure DenR (h:HF)(n:Nat)(d1 d2:Value)(q:Nat)(ld:List Nat):Prop where
 neg:d1=jx false
 sl:Sl h n 1 d2 (u32s ld)
 norm:Norm ld
 val:val ld=if q=1 then 0 else q
def AllD (s:List UInt8):Prop:=∀b∈s,48≤b.toNat∧b.toNat≤57
def dval:List UInt8→Nat:=List.foldl (fun v b=>10*v+(b.toNat-48)) 0
theorem zfg (s:List UInt8):∀v,List.foldl (fun v b=>10*v+(b.toNat-48)) v s=v*10^gP s+dval s:=by
 induction s with
 |nil=>intro v;simp [dval]
 |cons b s ih=>
  intro v;unfold dval;rw [EP,EP,ih,ih (10*0+_),Ao,Ac,An,An];rw [show 10*v*10^gP s=v*(10^gP s*10) from by rw [pe 10 v,Ah,pe 10]];omega
theorem sJ (a b:List UInt8):dval (a++b)=dval a*10^gP b+dval b:=by
 conv=>lhs;unfold dval
 rw [List.foldl_append];exact zfg b (dval a)
theorem rK (a:List UInt8)(b:UInt8):dval (a++[b])=10*dval a+(b.toNat-48):=by
 rw [sJ];simp [dval];omega
theorem qy (h:AllD s):dval s<10^gP s:=by
 induction s with
 |nil=>simp [dval]
 |cons b s ih=>
  have e:=h b gN;have f:=ih fun x c=>h x (by simp [c]);rw [show b::s=[b]++s from rfl,sJ];simp only [k0,nP];rw [Bj 1,Ac];have a:dval [b]≤9:=by simp [dval];omega
  have g:dval [b]*10^gP s≤9*10^gP s:=o0 _ a;omega
theorem mA {b:UInt8}(hb:s[i]?=some b):s.take (i+1)=s.take i++[b]:=by
 obtain ⟨a,rfl⟩:=nN.1 hb;rw [Ck a]
section
variable {X:CtxF}{r:List Oper}{t:TF}{h:HF}{Q:SV→Prop}{d:Tmp}
theorem yH {i:Operand}{b:UInt8}(a:Za X ops t o d (o.op=.index ty x i∧X.E.und ty=some .string∧evF t x=jy ⟨⟨s⟩⟩∧evF t i=gZ ik ji∧ji=(j:Int)))(hb:s[j]?=some b)
  (k:EO X ops r ⟨upd t d (gZ .u8 (b.toNat:Int)),h,n,w⟩ Q):EO X ops (o::r) ⟨t,h,n,w⟩ Q:=by
 obtain ⟨a,f,l,e,m,p,g,c⟩:=a;subst c;refine zS ⟨a,f,l,(by rw [e];rfl)⟩ ?_ k;rw [e];show iK X.E ty (evF t x) (evF t i)=_;rw [p,g];simp only [iK,m,A9,hb,eS (Dn j)]
end
def len8:List UInt8:=[0,1,2,2,3,3,3,3,4,4,4,4,4,4,4,4,5,5,5,5,5,5,5,5,5,5,5,5,5,5,5,5,6,6,6,6,6,6,6,6,6,6,6,6,6,6,6,6,6,6,6,6,6,6,6,6,6,6,6,6,6,6,6,6,7,7,7,7,7,7,7,7,7,7,7,7,7,7,7,7,7,7,7,7,7,7,7,7,7,7,7,7,7,7,7,7,7,7,7,7,7,7,7,7,7,7,7,7,7,7,7,7,7,7,7,7,7,7,7,7,7,7,7,7,7,7,7,7,8,8,8,8,8,8,8,8,8,8,8,8,8,8,8,8,8,8,8,8,8,8,8,8,8,8,8,8,8,8,8,8,8,8,8,8,8,8,8,8,8,8,8,8,8,8,8,8,8,8,8,8,8,8,8,8,8,8,8,8,8,8,8,8,8,8,8,8,8,8,8,8,8,8,8,8,8,8,8,8,8,8,8,8,8,8,8,8,8,8,8,8,8,8,8,8,8,8,8,8,8,8,8,8,8,8,8,8,8,8,8,8,8,8,8,8,8,8,8,8,8,8,8,8,8,8,8,8]
theorem zm9:∀i,i<256→∃b,len8[i]?=some b∧b.toNat≤8∧i<2^b.toNat∧(i≠0→2^b.toNat≤2*i):=by
 intro i d;have h:∀i:Fin 256,(len8[i.val]?).any (fun b=>decide (b.toNat≤8∧i.val<2^b.toNat∧(i.val≠0→2^b.toNat≤2*i.val)))=true:=by decide+kernel
 have:=h ⟨i,d⟩;rw [Option.any_eq_true] at this;obtain ⟨b,a,c⟩:=this;exact ⟨b,a,of_decide_eq_true c⟩
theorem zh9 {x m i L:Nat}(hi:x/2^m=i)(b:i<2^L)(c:i≠0→2^L≤2*i)(h3:m=0∨i≠0):x<2^(m+L)∧(x≠0→2^(m+L)≤2*x):=by
 have e:0<2^m:=AW zd;have d:=AE x (2^m);have f:=Az x e;rw [hi] at d;rw [Bf];constructor
 ·have:2^m*(i+1)≤2^m*2^L:=s9 _ b;rw [Ap,AH] at this;omega
 intro g;have a:i≠0:=by
  rcases h3 with rfl|h3
  ·rw [BL,EI] at hi;omega
  exact h3
 have:=s9 (2^m) (c a);rw [Be] at this;omega
theorem bi (k:Nat)(h:HF)(n:Nat){x:Nat}(hx:x<18446744073709551616):VF (cal (k+1)) 193 [gZ .u64 (x:Int)] h n fun v=>∃m:Nat,v=gZ .i64 (m:Int)∧m≤64∧x<2^m∧(x≠0→2^m≤2*x):=by
 refine zO (fn:=Tryz.f193) R4 ?_;have o:∀m s,x/2^m/2^s=x/2^(m+s):=fun m s=>by rw [Nat.div_div_eq_div_mul,←Bf]
 refine Zw ?_;refine yj (α:=Nat×Nat) (fun z=>[(0,gZ .u64 (z.2:Int)),(2,gZ .i64 (z.1:Int))]) (fun z g l w=>h=g∧n=l∧w=[]∧x/2^z.1=z.2∧z.2<4294967296∧z.1≤32∧(z.1=0∨z.2≠0)) ?_ ?_
 ·by_cases hge:4294967296≤x
  ·rw [ze (by show jx (decide _)=_;rw [eH zo])];refine Ze ?_;refine yn (a:=x) (s:=32) R6 zd ?_;refine Zo ?_;exact zA (32,x/2^32) ⟨rfl,rfl,eT⟩ ⟨rfl,rfl,rfl,rfl,by show x/2^32<_;omega,AL 32,.inr (by show x/2^32≠0;omega)⟩
  rw [za (by show jx (decide _)=_;rw [cA zo])];refine zN ?_;exact zA (0,x) ⟨rfl,rfl,eT⟩ ⟨rfl,rfl,rfl,by show x/2^0=x;rw [BL,EI],by show x<_;omega,Nat.zero_le 32,.inl rfl⟩
 rintro ⟨m,i⟩ t _ _ _ ⟨rfl,rfl,rfl,c,e,f,d⟩;simp only at c e f d;refine Zd ?_;refine yj (α:=Nat×Nat) (fun z=>[(0,gZ .u64 (z.2:Int)),(2,gZ .i64 (z.1:Int))]) (fun z g l w=>h=g∧n=l∧w=[]∧x/2^z.1=z.2∧z.2<65536∧z.1≤48∧(z.1=0∨z.2≠0)) ?_ ?_
 ·by_cases hge:65536≤i
  ·rw [ze (by show jx (decide _)=_;rw [eH zo])];refine Ze ?_;refine yn (a:=i) (s:=16) R6 zd ?_;refine Zo ?_;exact zA (m+16,i/2^16) ⟨rfl,rfl,eT⟩ ⟨rfl,rfl,rfl,by show x/2^(m+16)=i/2^16;rw [←c,o],by show i/2^16<_;omega,by show m+16≤48;omega,.inr (by show i/2^16≠0;omega)⟩
  rw [za (by show jx (decide _)=_;rw [cA zo])];refine zN ?_;exact zA (m,i) ⟨rfl,rfl,eT⟩ ⟨rfl,rfl,rfl,c,by show i<_;omega,by show m≤48;omega,d⟩
 clear c e f d;rintro ⟨m,i⟩ t _ _ _ ⟨rfl,rfl,rfl,c,e,f,d⟩;simp only at c e f d;refine Zd ?_;refine yj (α:=Nat×Nat) (fun z=>[(0,gZ .u64 (z.2:Int)),(2,gZ .i64 (z.1:Int))]) (fun z g l w=>h=g∧n=l∧w=[]∧x/2^z.1=z.2∧z.2<256∧z.1≤56∧(z.1=0∨z.2≠0)) ?_ ?_
 ·by_cases hge:256≤i
  ·rw [ze (by show jx (decide _)=_;rw [eH zo])];refine Ze ?_;refine yn (a:=i) (s:=8) R6 zd ?_;refine Zo ?_;exact zA (m+8,i/2^8) ⟨rfl,rfl,eT⟩ ⟨rfl,rfl,rfl,by show x/2^(m+8)=i/2^8;rw [←c,o],by show i/2^8<_;omega,by show m+8≤56;omega,.inr (by show i/2^8≠0;omega)⟩
  rw [za (by show jx (decide _)=_;rw [cA zo])];refine zN ?_;exact zA (m,i) ⟨rfl,rfl,eT⟩ ⟨rfl,rfl,rfl,c,by show i<_;omega,by show m≤56;omega,d⟩
 clear c e f d;rintro ⟨m,i⟩ t _ _ _ ⟨rfl,rfl,rfl,c,e,f,d⟩;simp only at c e f d;obtain ⟨b,A,B,p,q⟩:=zm9 i e;refine Zn ?_;refine mE (a:=i) R7 ?_;rw [Ab e];refine yH (s:=len8) (j:=i) (b:=b) R8 A ?_;refine vj (a:=(b.toNat:Int)) R7 zo ?_;refine Zb ?_;obtain ⟨u,y⟩:=zh9 c p q d;exact retF _ rfl (zi rfl) R2 ⟨m+b.toNat,rfl,zo,u,y⟩
theorem fX (k:Nat)(h:HF)(n:Nat){x:Nat}(hx:x<18446744073709551616)(h0:x≠0):VF (cal (k+2)) 200 [gZ .u64 (x:Int)] h n fun v=>∃s:Nat,v=gZ .i64 (s:Int)∧s<64∧9223372036854775808≤x*2^s∧x*2^s<18446744073709551616:=by
 refine zO (fn:=Tryz.f200) R4 ?_;refine Zy ?_;refine yi _ R5 (bi k h n hx) ?_;rintro _ ⟨m,rfl,g,b,c⟩;refine Zb ?_;have f:m≠0:=fun e=>by subst e;simp at b;omega
 refine retF _ rfl (zi rfl) R2 ⟨64-m,by show gZ .i64 _=gZ .i64 _;congr 1;omega,zo,?_,?_⟩
 ·have a:=o0 (2^(64-m)) (c h0);rw [←Bf,show m+(64-m)=64 from zo,Ah] at a;have d:(2:Nat)^64=18446744073709551616:=rfl;omega
 have a:=Nat.mul_lt_mul_of_pos_right b (AW (n:=64-m) (show 0<2 by decide));rw [←Bf,show m+(64-m)=64 from zo] at a;exact a
section
theorem iZ {U y s Q r:Nat}(h:U*2^s=Q*(y*2^s)+r)(a:r<y*2^s):U/y=Q∧U%y=r/2^s:=by
 have d:0<2^s:=AW zd;have f:0<y:=Nat.pos_of_ne_zero fun e=>by rw [e,Bg] at a;omega
 have b:U*2^s/(y*2^s)=Q:=by
  rw [h,Bj,Nat.add_mul_div_right _ _ zo,Cz a,sb]
 have c:U*2^s%(y*2^s)=r:=by
  rw [h,Bj,Nat.add_mul_mod_self_right,Ab a]
 rw [FO _ _ d] at b;rw [Nat.mul_mod_mul_right] at c;exact ⟨b,by rw [←c,Nat.mul_div_cancel _ d]⟩
theorem jG {lo s:Nat}(a:s≤64):lo*2^s=lo/2^(64-s)*18446744073709551616+lo*2^s%18446744073709551616:=by
 have e:lo*2^s/18446744073709551616=lo/2^(64-s):=by
  rw [show (18446744073709551616:Nat)=2^(64-s)*2^s from by rw [←Bf,show 64-s+s=64 from zo],FO _ _ (AW zd)]
 have:=AE (lo*2^s) 18446744073709551616;rw [e,pe] at this;exact this.symm
theorem jZ {a b s:Nat}(hb:b<2^s):a*2^s|||b=a*2^s+b:=by
 have:=Nat.shiftLeft_add_eq_or_of_lt hb a;rw [Nat.shiftLeft_eq] at this;exact this.symm
theorem zbp {top N b a d c Y Z:Nat}(g:b*Y+d=top*4294967296+N/4294967296)(i:a*Y+c=d*4294967296+N%4294967296)(f:Z=Y):top*18446744073709551616+N=(b*4294967296+a)*Z+c:=by
 subst f;have e:(b*4294967296+a)*Z=b*Z*4294967296+a*Z:=by rw [An,Do]
 rw [e];omega
set_option maxRecDepth 100000
theorem pH (k:Nat)(h:HF)(n:Nat){hi lo y:Nat}(M:hi<y)(P:lo<18446744073709551616)(W:y<18446744073709551616):VF (cal (k+3)) 206 [gZ .u64 (hi:Int),gZ .u64 (lo:Int),gZ .u64 (y:Int)] h n fun v=>v=.tuple #[gZ .u64 (((hi*18446744073709551616+lo)/y:Nat):Int),gZ .u64 (((hi*18446744073709551616+lo)%y:Nat):Int)]:=by
 refine zO (fn:=E2) R4 ?_;refine Zd ?_;refine Zp ?_;rw [za rfl];refine zN ?_;by_cases h0:hi=0
 ·subst h0;refine Zt ?_;rw [zae rfl];refine Zc ?_;refine xN (a:=lo) (b:=y) R6 zo ?_;refine Zc ?_;refine vO (a:=lo) (b:=y) R6 zo ?_;refine Zb ?_;exact retF [gZ .u64 _,gZ .u64 _] rfl rfl R2 (by rw [Bg,sb];rfl)
 refine Zz ?_;refine yi _ R5 (fX k h n W zo) ?_;rintro _ ⟨s,rfl,hs,K,C⟩;refine se (c:=s) R7 zo ?_;refine Zu ?_;refine xK (a:=y) (s:=s) R6 zo ?_;rw [Ab C];have hp:0<2^s:=AW zd;have O:hi*2^s+2^s≤y*2^s:=by
  have:=o0 (2^s) (show hi+1≤y from M);rw [An,BR] at this;exact this
 have I:lo/2^(64-s)<2^s:=by
  rw [Bk (AW zd),←Bf,show s+(64-s)=64 from zo];exact P
 have S:=jG (lo:=lo) (s:=s) zo;have J:lo*2^s%18446744073709551616<18446744073709551616:=Az _ zd;have H:(hi*18446744073709551616+lo)*2^s=(hi*2^s+lo/2^(64-s))*18446744073709551616+lo*2^s%18446744073709551616:=by
  rw [An,An,Do];omega
 clear S;refine Zb ?_;generalize hYe:y*2^s=Y at K C O ⊢;repeat refine zW ?_
 refine zN ?_;repeat refine zW ?_
 refine Zn ?_;refine xK (a:=hi) (s:=s) R6 zo ?_;rw [Ab (show hi*2^s<18446744073709551616 by omega)];refine Zc ?_;refine ym (a:=64) (b:=s) R6 zo ?_;refine yn (a:=lo) (s:=64-s) R6 zo ?_;refine wG (a:=hi*2^s) (b:=lo/2^(64-s)) R6 zo ?_;rw [jZ I];have w:hi*2^s+lo/2^(64-s)<Y:=zo;generalize hi*2^s+lo/2^(64-s)=top at H w ⊢;refine Zu ?_;refine xK (a:=lo) (s:=s) R6 zo ?_;generalize lo*2^s%18446744073709551616=N at H J ⊢;refine Zb ?_;repeat refine zW ?_
 refine zN ?_;repeat refine zW ?_
 refine zN ?_;obtain ⟨d,T⟩:∃d,d=Y/4294967296:=⟨_,rfl⟩;obtain ⟨m,V⟩:∃m,m=Y%4294967296:=⟨_,rfl⟩;have D:d*4294967296+m=Y:=zo;rw [←T,←V];refine Zc ?_;refine xN (a:=top) (b:=d) R6 zo ?_;refine Zb ?_;have L:top/d*d+top%d=top:=by rw [pe];exact AE _ _
 refine ZA ?_;refine xt (a:=top/d) (b:=d) R6 zo ?_;refine ym (a:=top) (b:=top/d*d) R6 zo ?_;rw [show top-top/d*d=top%d from zo];repeat refine zR ?_
 simp only [yY,ug,yu,xg,zK];refine zbr (va:=gZ .u64 (Y:Int)) (vb:=gZ .u64 (s:Int)) (vc:=gZ .u64 (top:Int)) (vd:=gZ .u64 ((N%4294967296:Nat):Int)) (v1:=d) (v2:=m) (w2:=N/4294967296) (top:=top) zo zo zo zo rfl ⟨rfl,rfl,rfl,rfl,rfl,rfl,rfl,rfl,rfl,eT⟩ ?_;intro t2 g i o;rw [←wU o];clear o;rw [D] at i;obtain ⟨e,l⟩:∃e,e=(top*4294967296+N/4294967296)%Y:=⟨_,rfl⟩;have p:=AE (top*4294967296+N/4294967296) Y;have F:=Az (top*4294967296+N/4294967296) (show 0<Y by omega);rw [←l] at F;rw [←i,←l] at p;clear i l;rw [pe] at p;simp only [yY,ug,yu,xg,zK];refine zM ?_;refine wk (a:=top) (b:=4294967296) R6 ?_;refine zM ?_;refine uo (a:=top*4294967296%18446744073709551616) (b:=N/4294967296) R6 ?_;refine Zc ?_;refine wk (a:=g) (b:=Y) R6 ?_;refine sd (a:=(top*4294967296%18446744073709551616+N/4294967296)%18446744073709551616) (b:=g*Y%18446744073709551616) R6 zo ?_;rw [show ((top*4294967296%18446744073709551616+N/4294967296)%18446744073709551616+18446744073709551616-g*Y%18446744073709551616)%18446744073709551616=e from zo];repeat refine zR ?_
 simp only [yY,ug,yu,xg,zK];refine Zc ?_;refine xN (a:=e) (b:=d) R6 zo ?_;repeat refine zR ?_
 simp only [yY,ug,yu,xg,zK];have L:e/d*d+e%d=e:=by rw [pe];exact AE _ _
 refine ZA ?_;refine xt (a:=e/d) (b:=d) R6 zo ?_;refine ym (a:=e) (b:=e/d*d) R6 zo ?_;rw [show e-e/d*d=e%d from zo];repeat refine zR ?_
 simp only [yY,ug,yu,xg,zK];refine zbq (va:=gZ .u64 (Y:Int)) (vb:=gZ .u64 (s:Int)) (vc:=gZ .u64 (g:Int)) (vd:=gZ .u64 (e:Int)) (v1:=d) (v2:=m) (w2:=N%4294967296) (top:=e) zo zo zo zo rfl ⟨rfl,rfl,rfl,rfl,rfl,rfl,rfl,rfl,rfl,eT⟩ ?_;intro t3 A f o;rw [←wU o];clear o;rw [D] at f;obtain ⟨B,j⟩:∃B,B=(e*4294967296+N%4294967296)%Y:=⟨_,rfl⟩;have q:=AE (e*4294967296+N%4294967296) Y;have G:=Az (e*4294967296+N%4294967296) (show 0<Y by omega);have R:(e*4294967296+N%4294967296)/Y<4294967296:=by
  rw [Bk zo];have:(e+1)*4294967296≤Y*4294967296:=o0 _ F;rw [pe 4294967296];omega
 rw [←f] at R;rw [←j] at G;rw [←f,←j] at q;clear f j;have Z:g<4294967296:=by
  apply tp;intro hn;have h1:4294967296*Y≤g*Y:=o0 _ zo;have h2:(top+1)*4294967296≤Y*4294967296:=o0 _ w;omega
 rw [pe] at q;refine Ze ?_;refine xt (a:=g) (b:=4294967296) R6 zo ?_;refine zM ?_;refine yT (a:=g*4294967296) (b:=A) R6 zo ?_;refine zM ?_;refine wk (a:=e) (b:=4294967296) R6 ?_;refine zM ?_;refine uo (a:=e*4294967296%18446744073709551616) (b:=N%4294967296) R6 ?_;refine Zc ?_;refine wk (a:=A) (b:=Y) R6 ?_;refine sd (a:=(e*4294967296%18446744073709551616+N%4294967296)%18446744073709551616) (b:=A*Y%18446744073709551616) R6 zo ?_;rw [show ((e*4294967296%18446744073709551616+N%4294967296)%18446744073709551616+18446744073709551616-A*Y%18446744073709551616)%18446744073709551616=B from zo];refine zM ?_;refine yn (a:=B) (s:=s) R6 zo ?_;refine Zb ?_;have u:=iZ (U:=hi*18446744073709551616+lo) (y:=y) (s:=s) (Q:=g*4294967296+A) (r:=B) (H.trans (zbp p q hYe)) (by rw [hYe];exact G);refine retF [gZ .u64 _,gZ .u64 _] rfl rfl R2 ?_;rw [u.1,u.2];rfl
end
theorem cH (j:Nat)(q:List Nat)(d:Nat):(ns (j+1) 0++q).set j d=ns j 0++d::q:=by
 rw [List.replicate_succ',Ak,A4 _ _ gN,List.length_replicate,AO];rfl
theorem pQ {Vq:Nat}(c:0<d)(b:V=d*Vq+r):(a+18446744073709551616*V)/d=(r*18446744073709551616+a)/d+18446744073709551616*Vq∧(a+18446744073709551616*V)%d=(r*18446744073709551616+a)%d:=by
 have e:a+18446744073709551616*V=(r*18446744073709551616+a)+d*(18446744073709551616*Vq):=by
  rw [b,Ap,Be];omega
 rw [e];exact ⟨Nat.add_mul_div_left _ _ c,Fc _ _ _⟩
theorem zck (b:r<d)(c:a<18446744073709551616):(r*18446744073709551616+a)/d<18446744073709551616:=by
 rw [Bk zo];have:(r+1)*18446744073709551616≤d*18446744073709551616:=o0 _ b;rw [pe 18446744073709551616];omega
theorem gI {l:List Nat}(h:l[j]?=some a):wv (l.drop j)=a+18446744073709551616*wv (l.drop (j+1)):=by
 rw [uR h];rfl
theorem zaz (k:Nat){a:Option Addr}{l:List Nat}(hb:gP l<1099511627)(s:WdD l)(e:0<d∧d<18446744073709551616)(m:Sl h n 1 (gS a len cap) (u64s l)):
  VF (cal (k+4)) 175 [gS a len cap,gZ .u64 (d:Int)] h n fun v=>v=gZ .u64 ((wv l%d:Nat):Int):=by
 refine zO (fn:=Tryz.f175) R4 ?_;have b:=m.lenW;subst b;refine Zd ?_;refine Zo ?_;refine ye (α:=Nat×Nat) (fun x=>[(0,gS a (gP l) cap),(1,gZ .u64 (d:Int)),(5,gZ .u64 (x.2:Int)),(6,gZ .i64 ((x.1:Int)-1))])
  (fun x p u w=>h=p∧n=u∧w=[]∧x.1≤gP l∧x.2=wv (l.drop x.1)%d) (fun x=>x.1)
  (gP l,0) ⟨rfl,rfl,rfl,rfl,eT⟩ ⟨rfl,rfl,rfl,eU,by rw [BE];exact (Nat.zero_mod _).symm⟩ (by show gP l<LL;unfold LL;omega) ?_
 rintro ⟨j,r⟩ t _ _ _ ⟨rfl,rfl,rfl,q,c⟩;simp only at q c;have i:r<d:=by rw [c];exact Az _ e.1
 refine zN ?_;cases j with
 |zero=>
  refine Zp ?_;exact retF _ rfl (zi rfl) R2 (by rw [c,Av];rfl)
 |succ j=>
  obtain ⟨x,g⟩:∃x,l[j]?=some x:=⟨l[j]'zo,kF zo⟩;have o:=s.get g;refine Zr ?_;refine yE (f:=fun d:Nat=>gZ .u64 (d:Int)) (j:=j) R7 m ⟨rfl,zo⟩ g (fun _=>rfl) R4 fun _=>?_;repeat refine zR ?_
  refine yi _ R5 (pH k h n i o e.2) ?_;rintro _ rfl;refine Zo ?_;refine goOn (j,(r*18446744073709551616+x)%d) (by show j<j+1;omega) ⟨rfl,rfl,rfl,by show gZ .i64 _=gZ .i64 _;congr 1;omega,eT⟩ ⟨rfl,rfl,rfl,by show j≤_;omega,?_⟩;show _%d=wv (l.drop j)%d;rw [gI g,(pQ (V:=wv (l.drop (j+1))) (Vq:=wv (l.drop (j+1))/d) (r:=r) (a:=x) e.1 (by rw [c];exact (AE _ _).symm)).2]
theorem zbo (k:Nat){a:Option Addr}{l:List Nat}(hb:gP l<1099511627)(R:WdD l)(m:0<d∧d<18446744073709551616)(K:Sl h n 1 (gS a len cap) (u64s l)):
  CF (cal (k+4)) 219 [gS a len cap,gZ .u64 (d:Int)] h n fun v p D w=>∃v1 L,v=.tuple #[v1,gZ .u64 ((wv l%d:Nat):Int)]∧ResW n h v1 p D w L∧wv L=wv l/d∧gP L≤gP l∧xC n v1:=by
 refine zw (fn:=Tryz.f219) R4 ?_;have s:=K.lenW;subst s;refine Zy ?_;refine vB (len:=gP l) (cap:=gP l) R9 zo ?_;rw [show zn (gZ .u64 0)=[gZ .u64 0] from rfl,xO];refine Zo ?_;refine Zb ?_;refine ye (α:=Nat×List Nat×Nat) (fun x=>[(0,gS a (gP l) cap),(1,gZ .u64 (d:Int)),(6,gS (some ⟨3*n+2,0,none⟩) (gP l) (gP l)),(7,gZ .u64 (x.2.2:Int)),(8,gZ .i64 ((x.1:Int)-1))])
  (fun x p D w=>D=n+1∧w=[]∧Ext n h p∧x.1≤gP l∧(∃e,p (3*n+2)=some (.row (u64s (ns x.1 0++x.2.1)) e))∧x.1+gP x.2.1=gP l∧WdD x.2.1∧x.2.2<d∧wv (l.drop x.1)=d*wv x.2.1+x.2.2) (fun x=>x.1)
  (gP l,[],0) ⟨rfl,rfl,rfl,rfl,rfl,eT⟩ ⟨rfl,rfl,Ext.upd zo,eU,⟨_,by rw [zg,Am]⟩,gN,WdD.nil,m.1,by rw [BE];rfl⟩ (by show gP l<LL;unfold LL;omega) ?_
 rintro ⟨j,q,r⟩ t F _ _ ⟨rfl,rfl,g,P,⟨e,c⟩,I,A,o,i⟩;simp only at P c I A o i;refine zN ?_;cases j with
 |zero=>
  rw [List.replicate_zero,Au] at c;have T:gP q=gP l:=zo;refine Zg ?_;refine Zj ?_;have J:=xi (k+2) (h:=F) (n:=n+1) (a:=some ⟨3*n+2,0,none⟩) (len:=gP l) (cap:=gP l) (l:=q) zo (fun _ e=>by injection e with e;rw [←e]) (.at_ zo c rfl eU (by rw [zL];omega) (by rw [Av,pq (by rw [zL];omega)]));refine zF _ R5 J ?_;rintro U _ _ _ ⟨rfl,rfl,rfl,rfl,S⟩;refine Zb ?_;rw [Av] at i;have G:wv l/d=wv q:=by rw [i,Nat.mul_add_div m.1,Cz o,AJ]
  have H:wv l%d=r:=by rw [i,Nat.mul_add_mod,Ab o]
  refine retH [gS _ _ _,gZ .u64 _] R3 ⟨_,yf q,by rw [H];rfl,⟨rfl,by show n≤n+1;omega,g,S,NW.trim A⟩,?_,?_,by show 3*n≤3*n+2;omega⟩
  ·rw [G];exact pv _ _
  have:=xU q;omega
 |succ j=>
  obtain ⟨x,B⟩:∃x,l[j]?=some x:=⟨l[j]'zo,kF zo⟩;have u:=R.get B;have M:=K.ext g (Al n);refine Zr ?_;refine yE (f:=fun d:Nat=>gZ .u64 (d:Int)) (j:=j) R7 M ⟨rfl,zo⟩ B (fun _=>rfl) R4 fun _=>?_;repeat refine zR ?_
  refine yi _ R5 (pH k F (n+1) o u m.2) ?_;rintro _ rfl;repeat refine zR ?_
  refine uH (j:=j) (v:=gZ .u64 (((r*18446744073709551616+x)/d:Nat):Int)) R8 zo (by rw [zL];simp;omega) c (by show 3*n≤3*n+2;omega) (fun _=>rfl) R3 (fun _=>rfl) rfl fun _=>?_;rw [yk,cH];refine Zo ?_;obtain ⟨N,O⟩:=pQ (V:=wv (l.drop (j+1))) (Vq:=wv q) (r:=r) (a:=x) m.1 i;refine goOn (j,(r*18446744073709551616+x)/d::q,(r*18446744073709551616+x)%d) (by show j<j+1;omega) ⟨rfl,rfl,rfl,rfl,by show gZ .i64 _=gZ .i64 _;congr 1;omega,eT⟩ ⟨rfl,rfl,fun b hb=>(zm zo).trans (g b hb),by show j≤_;omega,⟨e,zg _ _ _⟩,by show j+gP (_::q)=_;simp;omega,?_,Az _ m.1,?_⟩
  ·intro y C;rcases Ad.1 C with rfl|C
   ·exact zck o u
   exact A y C
  show wv (l.drop j)=d*wv (_::q)+_;rw [gI B,←O];have:=AE (x+18446744073709551616*wv (l.drop (j+1))) d;rw [N] at this;exact this.symm
theorem uv {c:Nat}(h:c<10):(Bd (48+c)).toNat=48+c:=by
 rw [UInt8.toNat_ofNat',Ab zo]
theorem pI:∀V,AllD ((decB V).map Bd)∧dval ((decB V).map Bd)=V:=by
 intro V;induction V using Nat.strongRecOn with
 |ind V ih=>
  by_cases h0:V=0
  ·subst h0;unfold decB;rw [xo];exact ⟨fun b a=>eN a gN,rfl⟩
  have e:decB V=decB (V/10)++[48+V%10]:=by
   unfold decB;rw [wy h0];simp
  obtain ⟨f,g⟩:=ih (V/10) zo;have d:=uv (c:=V%10) zo;rw [e,List.map_append,List.map_cons,List.map_nil];refine ⟨fun b a=>?_,?_⟩
  ·rcases AY.1 a with a|a
   ·exact f b a
   rw [qq.1 a,d];omega
  rw [rK,g,d];omega
theorem wx (V:Nat):AllD (decT V)∧dval (decT V)=V∧decT V≠[]:=by
 unfold decT;by_cases h0:V=0
 ·rw [eS h0,h0];exact ⟨fun b a=>by rw [qq.1 a];decide,rfl,gN⟩
 rw [eP h0];refine ⟨(pI V).1,(pI V).2,fun e=>?_⟩;have:=(pI V).2;rw [e] at this;exact h0 this.symm
def vF (s:List UInt8):Prop:=∃q:Rat,ratT q=s
def z6 (s:List UInt8):Bool:=s[0]?==some 45
def xB (s:List UInt8):List UInt8:=if z6 s then s.drop 1 else s
theorem qj (q:Rat):z6 (ratT q)=decide (q.num<0)∧xB (ratT q)=decT q.num.natAbs++(if q.den=1 then [] else 47::decT q.den):=by
 have a:z6 (ratT q)=decide (q.num<0):=by
  unfold z6 ratT;by_cases hn:q.num<0
  ·rw [eS hn,eH hn];rfl
  rw [eP hn,cA hn,Au];obtain ⟨d,_,f⟩:=wx q.num.natAbs;rw [List.getElem?_append_left (EV.2 f)];cases hd:(decT q.num.natAbs)[0]? with
  |none=>rfl
  |some b=>
   have:=d b (mp hd);show (some b==some 45)=false;have c:b≠45:=fun e=>by subst e;have g:(45:UInt8).toNat=45:=rfl;omega
   simpa using c
 refine ⟨a,?_⟩;unfold xB;rw [a];by_cases hn:q.num<0
 ·rw [eS (eH hn)];unfold ratT;rw [eS hn];rfl
 rw [eP (by simpa using hn)];unfold ratT;rw [eP hn];rfl
theorem zca (s:List UInt8):gP (xB s)≤gP s:=by
 unfold xB;split
 ·rw [sa];omega
 exact AL _
section
variable {X:CtxF}{r:List Oper}{t:TF}{h:HF}{Q:SV→Prop}{d:Tmp}
theorem u4 {i:Operand}(a:Za X ops t o d (o.op=.slice ty x (some i) none none∧X.E.und ty=some .string∧evF t x=jy ⟨⟨s⟩⟩∧evF t i=gZ ik ji∧ji=(j:Int)))(q:j≤gP s)
  (k:EO X ops r ⟨upd t d (jy ⟨⟨s.drop j⟩⟩),h,n,w⟩ Q):EO X ops (o::r) ⟨t,h,n,w⟩ Q:=by
 obtain ⟨a,f,l,c,m,p,g,b⟩:=a;subst b;refine zS ⟨a,f,l,(by rw [c];rfl)⟩ ?_ k;rw [c];show xc X.E ty (evF t x) (some (evF t i)) none=_;rw [p,g];have e:(0:Int)≤(j:Int)∧(j:Int)≤(gP s:Int):=zo;simp only [xc,m,bnd,eS e,A9];rw [pq (by rw [sa];exact AL _)]
theorem rq {i:Operand}(a:Za X ops t o d (o.op=.slice ty x none (some i) none∧X.E.und ty=some .string∧evF t x=jy ⟨⟨s⟩⟩∧evF t i=gZ ik ji∧ji=(j:Int)))(q:j≤gP s)
  (k:EO X ops r ⟨upd t d (jy ⟨⟨s.take j⟩⟩),h,n,w⟩ Q):EO X ops (o::r) ⟨t,h,n,w⟩ Q:=by
 obtain ⟨a,f,l,c,m,p,g,b⟩:=a;subst b;refine zS ⟨a,f,l,(by rw [c];rfl)⟩ ?_ k;rw [c];show xc X.E ty (evF t x) none (some (evF t i))=_;rw [p,g];have e:(0:Int)≤(j:Int)∧(j:Int)≤(gP s:Int):=zo;simp only [xc,m,bnd,eS e,A9,Av,C5]
end
section
variable {X:CtxF}{r:List Oper}{t:TF}{h:HF}{Q:SV→Prop}{d:Tmp}
theorem zhe {a:TypeId}(u:zh ops t o=true)(p:o.dst=some d)(q:zv X.nt (some d)=true)(f:o.op=.convert ty e x)(hx:evF t x=jy ⟨⟨s⟩⟩)(hm:vI X.E ty e (jy ⟨⟨s⟩⟩)=some ⟨s.map fun b=>gZ .u8 b.toNat,a,true,some (gP s,gP s)⟩)
  (k:EO X ops r ⟨upd t d (gS (some ⟨3*n+1,0,none⟩) (gP s) (gP s)),upd h (3*n+1) (some (.row (s.map fun b=>gZ .u8 b.toNat) a)),n+1,w⟩ Q):EO X ops (o::r) ⟨t,h,n,w⟩ Q:=by
 obtain ⟨y,g,j⟩:=k;refine ⟨y,?_,j⟩;rw [seqF,u];have m:cls o.op=4:=by rw [f];rfl
 have l:mkE X.E o.op (evF t)=some ⟨s.map fun b=>gZ .u8 b.toNat,a,true,some (gP s,gP s)⟩:=by rw [f];show vI X.E ty e (evF t x)=_;rw [hx];exact hm
 simp only [opF,m,l,mkF,xH,p,q,addW];exact g
end
theorem Gro.inv2 {h:HF}{n:Nat}(g:Gro h lo n e sz v len c)(h0:len≠0):∃b,v=gS (some ⟨b,0,none⟩) len len∧gro b=true∧3*lo≤b∧b<3*n∧h b=some (.row c e)∧gP c=len*sz:=by
 cases g with
 |nil=>exact eN rfl h0
 |at_ hg hlo hb hr hl ho=>exact ⟨_,rfl,hg,hlo,hb,hr,hl⟩
theorem tg {E D:List Nat}{x:Nat}(d:Nat)(h:D[gP E]?=some x):(E++D.drop (gP E)).set (gP E) d=(E++[d])++D.drop (gP (E++[d])):=by
 rw [uR h,A4 _ _ eU,AO];simp
theorem cL (h:i≤19):10^i≤10000000000000000000:=sN zd h
theorem NW.len_pow {L:List Nat}(h:NW L)(a:wv L<10^i):gP L≤i:=
 h.len_le (Af a (Nat.pow_le_pow_left zd i))
theorem NW.of_low {L:List Nat}(h:WdD L)(a:gP L=i+1)(g:18446744073709551616^i≤wv L):NW L:=by
 obtain ⟨l,d,rfl⟩:=Go.Proofs.YtepkmadmigkgmaaGreatDoor.snoc (l:=L) (by intro e;rw [e] at a;simp at a);refine ⟨h,xy l fun e=>?_⟩;subst e;rw [wv,qz,Bp,AJ] at g;have f:=znq (B:=18446744073709551616) (l:=l) fun x j=>h x (by simp [j]);simp at a;rw [a] at f;omega
theorem zm1 {w c:Nat}(f:w<18446744073709551616)(hb:b<18446744073709551616)(a:c<18446744073709551616):(w*b+c)/18446744073709551616<18446744073709551616:=by
 rw [Bk zd];have:w*b≤18446744073709551615*18446744073709551615:=Ar zo zo;omega
theorem mc (k:Nat)(h:HF)(n:Nat)(hs:AllD s)(hl:gP s<1000000):CF (cal (k+3)) 199 [jy ⟨⟨s⟩⟩] h n fun v H M w=>∃L,ResW n h v H M w L∧wv L=dval s∧xC n v:=by
 refine zw (fn:=Tryz.f199) R4 ?_;refine Zw ?_;refine ye (α:=List UInt8×List UInt8×Value×List Nat) (fun z=>[(0,jy ⟨⟨z.2.1⟩⟩),(3,z.2.2.1)])
  (fun z H M w=>w=[]∧n≤M∧Ext n h H∧s=z.1++z.2.1∧Gro H n M 196 1 z.2.2.1 (gP z.2.2.2) (u64s z.2.2.2)∧NW z.2.2.2∧wv z.2.2.2=dval z.1) (fun z=>gP z.2.1)
  ([],s,gS none 0 0,[]) ⟨rfl,rfl,eT⟩ ⟨rfl,eU,Ext.refl _ _,rfl,.nil,NW.nil,rfl⟩ (by show gP s<LL;unfold LL;omega) ?_
 rintro ⟨q,g,v3,D⟩ t h1 A _ ⟨rfl,a6,a7,F,K,J,R⟩;simp only at F K J R;have b0:gP q+gP g<1000000:=by rw [F,k0] at hl;exact hl
 have am:AllD q:=fun b u=>hs b (by rw [F];simp [u]);have ao:AllD g:=fun b u=>hs b (by rw [F];simp [u]);have aw:gP D≤gP q:=J.len_pow (by rw [R];exact qy am);obtain ⟨Y,rfl,_⟩:=K.shape;refine zN ?_;by_cases hr0:g=[]
 ·subst hr0;refine Zp ?_;rw [Am] at F;exact retH _ ⟨rfl,(zi rfl),rfl⟩ ⟨D,⟨rfl,a6,a7,K.sl,J⟩,by rw [R,F],K.fresh⟩
 have az:0<gP g:=EV.2 hr0;obtain ⟨sz,b1⟩:∃sz,sz=(gP g-1)%19+1:=⟨_,rfl⟩;have au:1≤sz∧sz≤19∧sz≤gP g:=zo;have af:gP (g.take sz)=sz:=by rw [sn];omega
 have O:AllD (g.take sz):=fun b u=>ao b (AB u);refine zM ?_;refine st_I (ik:=.i64) (a:=(gP g:Int)) R5 ?_;refine Zh ?_;refine Ze ?_;refine st_I (ik:=.i64) (a:=(gP g:Int)) R5 ?_;refine qO (a:=(gP g:Int)) (b:=1) R6 zo ?_;refine zj1 (a:=(gP g:Int)-1) (b:=19) R6 zd ?_;rw [show ((gP g:Int)-1).tmod 19=(((gP g-1)%19:Nat):Int) from by rw [show (gP g:Int)-1=((gP g-1:Nat):Int) from zo];rfl];refine uI (a:=(((gP g-1)%19:Nat):Int)) (b:=1) R6 zo ?_;rw [show (((gP g-1)%19:Nat):Int)+1=(sz:Int) from zo];refine Zo ?_;refine Zc ?_;refine rq (s:=g) (j:=sz) R8 zo ?_;refine zhe (s:=g.take sz) rfl rfl rfl rfl rfl rfl ?_;generalize hC:g.take sz=C at af O ⊢;generalize hh2:upd h1 (3*A+1) _=h2;have I:∃el,h2 (3*A+1)=some (.row (C.map fun b=>gZ .u8 b.toNat) el):=⟨_,by rw [←hh2,zg]⟩;obtain ⟨el,I⟩:=I;have a8:Ext A h1 h2:=by rw [←hh2];exact Ext.upd zo
 clear hh2;have aa:=K.ext a8 (Al A);have ai:Sl h2 (A+1) 1 (gS (some ⟨3*A+1,0,none⟩) (gP C) (gP C)) (C.map fun b=>gZ .u8 (b.toNat:Int)):=.at_ zo I rfl eU gN (by rw [Av,pq gN]);refine st_I (ik:=.i64) (a:=(gP C:Int)) R5 ?_;refine Zb ?_;refine ye (α:=Nat) (fun i=>[(0,jy ⟨⟨g⟩⟩),(3,gS Y (gP D) (gP D)),(4,gZ .i64 (sz:Int)),(5,gZ .u64 ((dval (C.take i):Nat):Int)),(6,gZ .u64 ((10^i:Nat):Int)),(23,gS (some ⟨3*A+1,0,none⟩) (gP C) (gP C)),(24,gZ .i64 (gP C:Int)),(25,gZ .i64 (i:Int))]) (fun i H M w=>h2=H∧M=A+1∧w=[]∧i≤gP C) (fun i=>gP C-i) 0 ⟨rfl,rfl,rfl,rfl,rfl,rfl,rfl,rfl,eT⟩ ⟨rfl,rfl,rfl,gH⟩ (by show gP C-0<LL;unfold LL;omega) ?_;rintro i t _ _ _ ⟨rfl,rfl,rfl,hi⟩;refine zN ?_;by_cases hiC:i=gP C;case neg=>
  obtain ⟨b,u⟩:∃b,C[i]?=some b:=⟨C[i]'zo,kF zo⟩;have ax:=O b (mp u);have ay:dval (C.take i)<10^i:=by
   have:=qy (s:=C.take i) fun b u=>O b (AB u);rw [sn,AN zo] at this;exact this
  have hp:=cL (i:=i+1) zo;rw [Ac] at hp;refine Zt ?_;refine yE (f:=fun b:UInt8=>gZ .u8 (b.toNat:Int)) (j:=i) R7 ai R2 u (fun _=>rfl) R4 fun _=>?_;refine Zb ?_;refine zM ?_;refine xt (a:=10) (b:=dval (C.take i)) R6 zo ?_;refine zM ?_;refine jA (a:=b.toNat) (b:=48) R6 zo ?_;refine se (c:=b.toNat-48) R7 zo ?_;refine yT (a:=10*dval (C.take i)) (b:=b.toNat-48) R6 zo ?_;refine Zb ?_;refine zM ?_;refine xt (a:=10^i) (b:=10) R6 zo ?_;refine Zo ?_;refine goOn (i+1) (by show gP C-(i+1)<gP C-i;omega) ⟨rfl,rfl,rfl,?_,?_,rfl,rfl,rfl,eT⟩ ⟨rfl,rfl,rfl,by show i+1≤_;omega⟩
  ·show gZ .u64 _=gZ .u64 _;rw [mA u,rK]
  show gZ .u64 _=gZ .u64 _;rw [Ac]
 subst hiC;refine Zl ?_;rw [xd];refine Zc ?_;refine u4 (s:=g) (j:=sz) R8 zo ?_;refine Zo ?_;refine Zb ?_;have av:dval C<10^gP C:=qy O;have hp:=cL (i:=gP C) zo;refine ye (α:=List Nat×Nat) (fun z=>[(0,jy ⟨⟨g.drop sz⟩⟩),(3,gS Y (gP D) (gP D)),(6,gZ .u64 ((10^gP C:Nat):Int)),(9,gZ .u64 (z.2:Int)),(42,gS Y (gP D) (gP D)),(43,gZ .i64 (gP D:Int)),(44,gZ .i64 (gP z.1:Int))])
  (fun z H M w=>M=A+1∧w=[]∧Ext n h H∧Gro H n (A+1) 196 1 (gS Y (gP D) (gP D)) (gP D) (u64s (z.1++D.drop (gP z.1)))∧gP z.1≤gP D∧WdD z.1∧z.2<18446744073709551616∧wv z.1+z.2*18446744073709551616^gP z.1=wv (D.take (gP z.1))*10^gP C+dval C) (fun z=>gP D-gP z.1)
  ([],dval C) ⟨rfl,rfl,rfl,rfl,rfl,rfl,rfl,eT⟩ ⟨rfl,rfl,a7.trans a8 a6,aa,gH,WdD.nil,by show dval C<_;omega,by simp [wv,dv]⟩ (by show gP D-0<LL;unfold LL;omega) ?_
 rintro ⟨E,c⟩ t h3 _ _ ⟨rfl,rfl,a2,G,ah,S,hc,N⟩;simp only at G ah S hc N;refine zN ?_;by_cases hED:gP E=gP D;case neg=>
  obtain ⟨x,hx⟩:∃x,D[gP E]?=some x:=⟨D[gP E]'zo,kF zo⟩;have a9:=J.1.get hx;obtain ⟨b,Z,an,ak,al,ae,ab⟩:=G.inv2 zo;injection Z with Z _ _
  subst Z;have ag:Sl h3 (A+1) 1 (gS (some ⟨b,0,none⟩) (gP D) (gP D)) (u64s (E++D.drop (gP E))):=G.sl;have ar:(E++D.drop (gP E))[gP E]?=some x:=by rw [ux eU,AO,BY,AJ,hx]
  refine Zr ?_;refine yE (f:=fun d:Nat=>gZ .u64 (d:Int)) (j:=gP E) R7 ag R2 ar (fun _=>rfl) R4 fun _=>?_;refine Zm ?_;refine yi _ R5 (uN k h3 (A+1) a9 (show 10^gP C<18446744073709551616 by omega) hc) ?_;rintro _ rfl;repeat refine zR ?_
  refine uH (j:=gP E) (v:=gZ .u64 (((x*10^gP C+c)%18446744073709551616:Nat):Int)) R8 rfl (by rw [ab];omega) ae (by show 3*n≤b;omega) (fun _=>rfl) R3 (fun _=>rfl) rfl fun _=>?_;rw [yk,tg _ hx];refine Zo ?_;have ad:(x*10^gP C+c)%18446744073709551616<18446744073709551616:=Az _ zd;refine goOn (E++[(x*10^gP C+c)%18446744073709551616],(x*10^gP C+c)/18446744073709551616) (by show gP D-gP (E++[_])<gP D-gP E;simp;omega) ⟨rfl,rfl,rfl,rfl,rfl,rfl,by show gZ .i64 _=gZ .i64 _;simp,eT⟩ ⟨rfl,rfl,fun b' aj=>(zm zo).trans (a2 b' aj),.at_ an ak al (zg _ _ _) ?_ (xW _),by show gP (E++[_])≤_;simp;omega,WdD.snoc S ad,zm1 a9 zo hc,?_⟩
  ·rw [zL,k0,sa];simp;omega
  show wv (E++[_])+_*18446744073709551616^gP (E++[_])=wv (D.take (gP (E++[_])))*_+_;simp only [k0,nP];have ap:wv (D.take (gP E+1))=wv (D.take (gP E))+18446744073709551616^gP E*x:=wJ hx;rw [ap,Ac];have:=zb2 (B:=18446744073709551616) (P:=18446744073709551616^gP E) (V:=wv E) (V':=wv (E++[(x*10^gP C+c)%18446744073709551616])) (c:=c) (p:=x*10^gP C) (d:=(x*10^gP C+c)%18446744073709551616) (c':=(x*10^gP C+c)/18446744073709551616) (by rw [wv,qz,pe];rfl) (by rw [Bj c];exact AE _ _);rw [this,N];generalize 18446744073709551616^gP E=P;generalize 10^gP C=T;generalize wv (D.take (gP E))=W;rw [An,pe P x,Do];omega
 rw [hED,BE,Am] at G;rw [hED,xd] at N;refine Zl ?_;have a1:s=(q++C)++g.drop sz:=by rw [F,←hC,Ak,Bm]
 have a4:dval (q++C)=wv D*10^gP C+dval C:=by rw [sJ,R]
 have U:gP (g.drop sz)<gP g:=by rw [sa];omega
 by_cases hc0:c=0
 ·subst hc0;refine Zl ?_;rw [Bg,AJ] at N;refine goOn (q++C,g.drop sz,gS Y (gP D) (gP D),E) U ⟨rfl,rfl,eT⟩ ⟨rfl,by show n≤A+1;omega,a2,a1,by show Gro _ _ _ _ _ _ (gP E) _;rw [hED];exact G,?_,by show wv E=dval (q++C);rw [N,a4]⟩;show NW E;cases hDn:D with
  |nil=>
   rw [hDn] at hED;rw [vT.1 hED];exact NW.nil
  |cons y D'=>
   obtain ⟨l,d,a0⟩:=Go.Proofs.YtepkmadmigkgmaaGreatDoor.snoc (l:=D) (by rw [hDn];simp);have ac:=(show NW (l++[d]) by rw [←a0];exact J).low;rw [←a0] at ac;refine NW.of_low (i:=gP l) S (by rw [hED,a0];simp) ?_;rw [N];have:wv D*1≤wv D*10^gP C:=s9 _ (AW zd);omega
 refine Zr ?_;refine pZ (cs:=[gZ .u64 (c:Int)]) R5 ?_;refine cm (m:=1) R8 zd (G.ext (Ext.upd zo) zs) (yp (zg _ _ _) R2) eU zo rfl rfl (by show n≤n∧_;omega) ?_;intro v' h5 a5 aq _;obtain ⟨a',rfl,_⟩:=a5.shape;refine Zb ?_;refine goOn (q++C,g.drop sz,gS a' (gP D+1) (gP D+1),E++[c]) U ⟨rfl,rfl,eT⟩ ⟨rfl,by show n≤A+1+1+1;omega,fun b u=>(aq b u).trans ((zm zo).trans (a2 b u)),a1,?_,⟨WdD.snoc S hc,xy E hc0⟩,?_⟩
 ·show Gro _ _ _ _ _ _ (gP (E++[c])) (u64s (E++[c]));rw [vg,k0,hED];exact a5
 show wv (E++[c])=dval (q++C);rw [wv,qz,a4,←N,hED,pe];rfl
theorem zB (n:Nat):gro (3*n+2)=false:=by
 unfold gro;rw [show (3*n+2)%3=2 from zo];rfl
section
variable {h:HF}{sT:TypeId}{x:Value}
theorem nG {m:Nat}(y:E.und sT=some (.slice e))(hi:E.inf e=some (size,bytes,z))(A:gP (zn z)=size)(a:1≤size∧1≤bytes)(hx:argS h size x m new)(hb:m*bytes≤1099511627776)(u:gro b=false)(hm:m≠0):
  yW E h n sT (gS (some ⟨b,0,none⟩) 0 0) x=some (.val (gS (some ⟨3*n+1,0,none⟩) m m) (upd h (3*n+1) (some (.row new e))) (n+1) []):=by
 obtain ⟨f,hc⟩:=hx;have g:Ag (m*bytes) 1099511627776=true:=oo hb;have j:AD (gP (zn z)) size=true:=by rw [A];exact Cb _
 have l:Ag 1 size=true:=oo a.1;have p:Ag 1 bytes=true:=oo a.2;have q:Ag m 0=false:=by
  cases hb:Ag m 0 with
  |false=>rfl
  |true=>have:=tu hb;omega
 have s:yD h size 0 (gS (some ⟨b,0,none⟩) 0 0)=some []:=by simp [yD]
 simp only [yW,y,hi,f,hc,sb,g,j,l,p,q,s,AV,zbf,u,Au]
theorem nE {a:Option Addr}(u:E.und sT=some (.slice e))(hi:E.inf e=some (size,bytes,z))(y:gP (zn z)=size)(f:1≤size∧1≤bytes)(hx:argS h size x 0 [])(hb:L*bytes≤1099511627776):
  yW E h n sT (gS a L L) x=some (.val (gS a L L) h n []):=by
 obtain ⟨g,hc⟩:=hx;have j:Ag (L*bytes) 1099511627776=true:=oo hb;have l:AD (gP (zn z)) size=true:=by rw [y];exact Cb _
 have p:Ag 1 size=true:=oo f.1;have q:Ag 1 bytes=true:=oo f.2;have s:Ag L L=true:=oo eU;simp only [yW,u,hi,g,hc,AJ,j,l,p,q,s,AV,uB]
inductive Gr0 (h:HF) (lo n:Nat) (e:TypeId) (sz:Nat):Value→Nat→List Value→Prop
 |gro {v:Value} {len:Nat} {c:List Value} (g:Gro h lo n e sz v len c):Gr0 h lo n e sz v len c
 |emp {m:Nat} (hlo:lo≤m) (hm:m<n):Gr0 h lo n e sz (gS (some ⟨3*m+2,0,none⟩) 0 0) 0 []
theorem Gr0.ext {h:HF}{n:Nat}{e:TypeId}(g:Gr0 h lo n e sz v len c)(a:Ext n h h')(f:n≤n'):Gr0 h' lo n' e sz v len c:=by
 cases g with
 |gro g=>exact .gro (g.ext a f)
 |emp hlo hm=>exact .emp hlo zo
theorem Gr0.shape {h:HF}{n:Nat}{e:TypeId}(g:Gr0 h lo n e sz v len c):∃a,v=gS a len len∧gP c=len*sz:=by
 cases g with
 |gro g=>exact g.shape
 |emp hlo hm=>exact ⟨_,rfl,gN⟩
theorem zcb {m:Nat}(p:E.und sT=some (.slice e))(hi:E.inf e=some (size,bytes,z))(q:gP (zn z)=size)(g:1≤size∧1≤bytes)(f:Gr0 h lo n e size v len c)(hx:argS h size x m new)(hb:(len+m)*bytes≤1099511627776)(j:gP new=m*size)(l:ones new=true)(y:lo≤n):
  ∃v' h' n' W,yW E h n sT v x=some (.val v' h' n' W)∧n≤n'∧Gr0 h' lo n' e size v' (len+m) (c++new)∧Ext lo h h'∧Keep v n h h'∧(∀b∈W,3*lo≤b∧gro b=true)∧(v'=v∨xC n v'):=by
 by_cases hm:m=0
 ·subst hm;have s:new=[]:=vT.1 (by rw [j];simp);subst s;obtain ⟨a,rfl,_⟩:=f.shape;exact ⟨_,_,_,_,nE p hi q g hx hb,eU,by rw [Am];exact f,Ext.refl _ _,fun _ _ _=>rfl,fun b hb=>eN hb og,.inl rfl⟩
 cases f with
 |emp hlo2 hm2=>
  rw [sb] at hb ⊢;refine ⟨_,_,_,_,nG p hi q g hx hb (zB _) hm,Al n,.gro (.at_ (uD n) zo zo (zg _ _ _) j l),Ext.upd zo,fun b hb _=>zm zo,fun b hb=>eN hb og,.inr (by show 3*n≤3*n+1;omega)⟩
 |gro f=>
  cases f with
  |nil=>
   refine ⟨_,_,_,_,append_nil p hi q g.1 g.2 hx zo (by rw [sb] at hb;exact hb),Al n,?_,Ext.upd zo,fun b hb _=>zm zo,fun b hb=>eN hb og,.inr (by show 3*n≤3*n+1;omega)⟩;rw [sb];exact .gro (.at_ (uD n) zo zo (zg _ _ _) j l)
  |at_ f hlo2 hb2 hr hl2 ho2=>
   refine ⟨_,_,_,_,ue p hi q g.1 g.2 hx zo hb f hr hl2 (yZ ho2 l) j,Al n,.gro (.at_ (uD n) zo zo (zg _ _ _) (by rw [k0,hl2,j,An]) (yZ ho2 l)),fun b hb=>?_,fun b hb u=>?_,fun b hb=>?_,.inr (by show 3*n≤3*n+1;omega)⟩
   ·rw [zm zo,zm zo]
   ·rw [zm zo,zm (fun e=>u 0 len len (by rw [e]))]
   have hb:=qq.1 hb;rw [hb];exact ⟨hlo2,f⟩
end
theorem fR {m:Nat}:∀{l:List (Nat×Nat)},(∀x∈l,x.2≠b)→ya m [b] l=true:=by
 intro l;induction l with
 |nil=>intro _;rfl
 |cons x l ih=>
  intro h;obtain ⟨i,c⟩:=x;have a:memN c [b]=false:=by
   unfold memN;cases he:AD c b with
   |false=>rfl
   |true=>exact eN (Ay he) (h (i,c) gN)
  unfold ya;rw [a,Df,GJ];exact ih fun y f=>h y (by simp [f])
section
variable {X:CtxF}{r:List Oper}{t:TF}{h:HF}{Q:SV→Prop}{d:Tmp}
theorem zc7 {sT e:TypeId}{s x:Operand}{size bytes m:Nat}{z:Value}(f:Za X ops t o d (o.op=.call {callee:=.builtin .append,args:=#[s,x],argTypes:=#[sT,xT]}∧(match X.E.und xT with|some (.int _)=>false|none=>false|_=>true)=true∧X.E.und sT=some (.slice e)∧X.E.inf e=some (size,bytes,z)∧gP (zn z)=size))(p:1≤size∧1≤bytes)(F:Gr0 h lo n e size (evF t s) len c)(hx:argS h size (evF t x) m new)(hb:(len+m)*bytes≤1099511627776)(H:gP new=m*size)(j:ones new=true)(g:X.n0≤lo∧lo≤n)
  (k:∀a h' n',n≤n'→Gr0 h' lo n' e size a (len+m) (c++new)→Ext lo h h'→Keep (evF t s) n h h'→(a=evF t s∨xC n a)→EO X ops r ⟨upd t d a,h',n',w⟩ Q):EO X ops (o::r) ⟨t,h,n,w⟩ Q:=by
 obtain ⟨f,hd,hn,I,l,J,G,K⟩:=f;obtain ⟨a,h',n',W,q,u,y,A,B,C,D⟩:=zcb J G K p F hx hb H j g.2;refine yM ⟨f,hd,hn,I,l⟩ q ?_;rw [zV fun b hb=>by have:=(C b hb).1;omega];exact k a h' n' u y A B D
end
section
variable {X:CtxF}{r:List Oper}{t:TF}{h:HF}{ld:List (Nat×Nat)}{ef:List (Nat×HF×List Nat)}{Q:SV→Prop}{d:Tmp}
end
theorem Sl.zero {a:Option Addr}{c:Nat}(s:Sl h n 1 (gS a l c) (u64s A))(d:a=none):A=[]:=by
 have i:=s.lenW;by_cases h0:l=0
 ·exact vT.1 zo
 obtain ⟨b,f,x,g,e,_⟩:=s.inv h0;rw [d] at e;cases e
theorem ub (k:Nat){a:Option Addr}{L:List Nat}(i:Sl h n 1 (gS a len cap) (u64s L))(p:gP L<1000000000):CF (cal (k+1)) 169 [gS a len cap] h n fun v f j w=>w=[]∧n≤j∧Ext n h f∧Sl f j 1 v (u64s L)∧(L≠[]→Gro f n j 196 1 v (gP L) (u64s L)):=by
 refine zw (fn:=Tryz.f169) R4 ?_;have g:=i.lenW;subst g;refine Zy ?_;cases a with
 |none=>
  have c:=i.zero rfl;subst c;refine zN ?_;rw [ze rfl];refine Zd ?_;exact retH _ ⟨rfl,(zi rfl),rfl⟩ ⟨rfl,eU,Ext.refl _ _,.nil (.inl rfl),fun h=>eN rfl h⟩
 |some ad=>
  refine zN ?_;rw [za rfl];refine zN ?_;refine pZ (cs:=[]) R5 ?_;repeat refine zR ?_
  have d:=i.ext (Ext.upd (h:=h) (b:=3*n+2) (x:=some (.row [] 196)) (show 3*n≤3*n+2 by omega)) (Al n);by_cases c:L=[]
  ·subst c;refine yM R5 (nE (L:=0) rfl rfl rfl zd (uX d) zd) ?_;refine Zb ?_;exact retH _ ⟨rfl,(zi rfl),rfl⟩ ⟨rfl,Al n,Ext.upd zo,.nil (.inr ⟨_,_,_,rfl,by show 3*n+2<3*(n+1);omega⟩),fun h=>eN rfl h⟩
  have m:gP L≠0:=fun e=>c (vT.1 e);refine yM R5 (nG rfl rfl rfl zd (uX d) zo (zB n) m) ?_;refine Zb ?_;have o:Gro (upd (upd h (3*n+2) (some (.row [] 196))) (3*(n+1)+1) (some (.row (u64s L) 196))) n (n+1+1) 196 1 (gS (some ⟨3*(n+1)+1,0,none⟩) (gP L) (gP L)) (gP L) (u64s L):=.at_ (uD (n+1)) zo zo (zg _ _ _) (by rw [zL,AH]) (xW L);exact retH _ ⟨rfl,(zi rfl),rfl⟩ ⟨rfl,by show n≤n+1+1;omega,(Ext.upd zo).trans (Ext.upd zo) (Al n),o.sl,fun _=>o⟩
theorem ma (k:Nat)(h:HF)(n:Nat)(m:AllD s)(q:gP s≤570):CF (cal (k+4)) 168 [jy ⟨⟨s⟩⟩,gS none 0 0] h n fun v d e w=>∃L,ResW n h v d e w L∧wv L=dval s∧xC n v:=by
 refine zw (fn:=Tryz.f168) R4 ?_;refine Zw ?_;refine ye (α:=Unit) (fun _=>[(0,jy ⟨⟨s⟩⟩),(5,gZ .i64 (-1))]) (fun _ d e w=>h=d∧n=e∧w=[]) (fun _=>0) () ⟨rfl,rfl,eT⟩ ⟨rfl,rfl,rfl⟩ (by show 0<LL;decide) ?_;rintro _ t _ _ _ ⟨rfl,rfl,rfl⟩;refine Zd ?_;rw [za rfl];refine Zd ?_;rw [ze rfl];refine Ze ?_;refine zF _ R5 (mc k h n m zo) ?_;rintro v p u _ ⟨L,⟨rfl,f,g,b,i⟩,o,j⟩;obtain ⟨a,l,c,rfl,_⟩:=b.len;refine Zb ?_;exact retH _ ⟨rfl,(zi rfl),rfl⟩ ⟨L,⟨rfl,f,g,b,i⟩,o,j⟩
theorem nZ (k:Nat)(h:HF)(n:Nat)(m:AllD s)(j:gP s≤570):CF (cal (k+5)) 134 [jy ⟨⟨s⟩⟩] h n fun v f p w=>∃L,ResW n h v f p w L∧wv L=dval s∧xC n v:=by
 refine zw (fn:=Tryz.f134) R4 ?_;refine Zw ?_;refine zM ?_;refine st_I (ik:=.i64) (a:=(gP s:Int)) R5 ?_;refine Zl ?_;refine Zc ?_;refine zF _ R5 (ma k h n m j) ?_;rintro v q u _ ⟨L,⟨rfl,d,e,b,g⟩,o,i⟩;obtain ⟨a,l,c,rfl,_⟩:=b.len;refine Zb ?_;exact retH _ ⟨rfl,(zi rfl),rfl⟩ ⟨L,⟨rfl,d,e,b,g⟩,o,i⟩
def NatR (n:Nat)(h:HF)(v:Value)(h':HF)(n':Nat)(w:List Nat)(x:Nat):Prop:=∃a l c L,v=.agg #[jx false,gS a l c]∧ResW n h (gS a l c) h' n' w L∧wv L=x
theorem zd3 (k:Nat)(h:HF)(n:Nat)(o:AllD s)(m:gP s≤570):CF (cal (k+6)) 74 [jy ⟨⟨s⟩⟩] h n fun v g q w=>NatR n h v g q w (dval s):=by
 refine zw (fn:=Tryz.f74) R4 ?_;refine zN ?_;refine xV R5 ?_;refine Ze ?_;refine zF _ R5 (nZ k _ _ o m) ?_;rintro v B u _ ⟨L,⟨rfl,y,e,d,i⟩,p,j⟩;obtain ⟨a,l,c,rfl,_⟩:=d.len;have f:=(e (3*n+2) zo).trans (zg _ _ _);refine zS (v:=.agg #[jx false,gS a l c]) R4 rfl ?_;refine yc [jx false,gS a l c] R8 f rfl (by show 3*n≤3*n+2;omega) ?_;refine zN ?_;exact uq R5 (zg _ _ _) rfl ⟨_,_,_,L,rfl,⟨rfl,by show n≤u;omega,fun b f=>(zm zo).trans ((e b zo).trans (zm zo)),d.off (j.off zo),i⟩,p⟩
theorem pP (c:Nat):wv [c]=c:=by simp [wv,dv]
theorem zij {x c:Nat}:rp c (x%c)=rp x c:=by rw [Cp,←FU,Cp]
theorem zie (k:Nat){b:Bool}{a:Option Addr}{c:Nat}{L:List Nat}(o:Sl h n 1 (gS a l c) (u64s L))(q:NW L):VF (cal (k+1)) 76 [.agg #[jx b,gS a l c]] h n fun v=>v=jx (!b&&decide (wv L=1)):=by
 refine zO (fn:=Tryz.f76) R4 ?_;have m:=o.lenW;subst m;refine zN ?_;refine zc0 (cs:=[jx b,gS a (gP L) c]) R5 ?_;generalize hh:upd h (3*n+2) _=h1;have p:Ext n h h1:=by rw [←hh];exact Ext.upd zo
 have g:∃e,h1 (3*n+2)=some (.row [jx b,gS a (gP L) c] e):=⟨_,by rw [←hh,zg]⟩;obtain ⟨w,g⟩:=g;clear hh;have i:=o.ext p (Al n);refine Zm ?_;refine zT R6 g (v:=jx b) R2 ?_;cases b with
 |true=>
  refine Zb ?_;exact retF _ rfl (zi rfl) R2 rfl
 |false=>
 repeat refine zR ?_
 refine zT R6 g (v:=gS a (gP L) c) R2 ?_;by_cases h1:gP L=1
 ·obtain ⟨d,rfl⟩:=List.length_eq_one_iff.1 h1;rw [show [d].length=1 from rfl] at g i ⊢;repeat refine zR ?_
  refine zT R6 g (v:=gS a 1 c) R2 ?_;refine yE (f:=fun d:Nat=>gZ .u64 (d:Int)) (l:=[d]) (j:=0) R7 i ⟨rfl,gN⟩ rfl (fun _=>rfl) R4 fun _=>?_;rw [pP];by_cases hd:d=1
  ·refine Zb ?_;exact retF _ rfl (zi rfl) R2 (by rw [eH hd];rfl)
  refine Zb ?_;exact retF _ rfl (zi rfl) R2 (by rw [cA hd];rfl)
 have u:wv L≠1:=fun e=>h1 (by rw [q.inj (NW.one (d:=1) zd zd) (by rw [e,pP])];rfl);refine Zb ?_;exact retF _ rfl (zi rfl) R2 (by rw [cA u];rfl)
def ExtT (n bt:Nat)(h h':HF):Prop:=∀b,b<3*n→b≠bt→h' b=h b
theorem ExtT.refl (n a:Nat)(h:HF):ExtT n a h h:=fun _ _ _=>rfl
def strs (l:List (List UInt8)):List Value:=l.map fun s=>jy ⟨⟨s⟩⟩
theorem fg (a b:List (List UInt8)):strs (a++b)=strs a++strs b:=by simp [strs]
theorem zha (a:List (List UInt8)):gP (strs a)=gP a:=by simp [strs]
theorem qR {m:Nat}{W:List Nat}:∀{l:List (Nat×Nat)},xJ m l=true→ya m W l=true:=by
 intro l;induction l with
 |nil=>intro _;rfl
 |cons x l ih=>
  intro h;obtain ⟨i,b⟩:=x;unfold xJ at h;split at h
  ·rename_i hb;unfold ya;rw [hb,GP];exact ih h
  cases h
section
variable {X:CtxF}{r:List Oper}{t:TF}{h:HF}{ld:List (Nat×Nat)}{ef:List (Nat×HF×List Nat)}{Q:SV→Prop}{d:Tmp}
theorem zqm {xT u e:TypeId}{s x:Operand}{lo len a f mm:Nat}{z:Value}{c new:List Value}(N:zh ops t o=true)(hd:o.dst=some d)(hn:zv X.nt (some d)=true)(L:o.op=.call {callee:=.builtin .append,args:=#[s,x],argTypes:=#[u,xT]})(q:(match X.E.und xT with|some (.int _)=>false|none=>false|_=>true)=true)
  (M:X.E.und u=some (.slice e))(hi:X.E.inf e=some (a,f,z))(O:gP (zn z)=a)(B:1≤a∧1≤f)(v:xq m ef=true)(y:xJ m al=true)(A:xJ m ld=true)(J:Gro h lo n e a (evF t s) len c)(hx:argS h a (evF t x) mm new)(hm:1≤mm)(hb:(len+mm)*f≤1099511627776)(K:gP new=mm*a)(p:ones new=true)(l:X.n0≤lo∧lo≤n)
  (k:∀j g W,Gro g lo (n+1) e a j (len+mm) (c++new)→Ext lo h g→Keep (evF t s) n h g→xC n j→ED X ops r ms (i+1) ⟨⟨upd t d j,g,n+1,w⟩,al,ld,(i,h,W)::ef⟩ Q):ED X ops (o::r) (m::ms) i ⟨⟨t,h,n,w⟩,al,ld,ef⟩ Q:=by
 obtain ⟨j,g,W,C,D,F,H,G,I⟩:=uf M hi O B J hx hm hb K p l.2;refine iV N hd hn L q C v y (qR A) zs ?_;rw [zV fun b hb=>by have:=G b hb;omega];exact k j g W D F H I
end
theorem rT {h:HF}{n:Nat}{P:Value→HF→Nat→List Nat→Prop}(g:GK.orc f args=none∧env.fn f=some fn∧fn.body=some body∧Ag (gP args) fn.ntmps=true)
  (hx:EC (ctx k n fn.ntmps) body ⟨mj args,h,n,[]⟩ fun e s=>rI e=true∧∃a,resF env s fn.results.toList=some a∧P (qm a) s.h s.n s.w∧(s.w=[]→P (qm a) h n [])):CF (cal (k+1)) f args h n P:=by
 obtain ⟨g,i,D,p⟩:=g;refine jn g i D p (sW hx fun e s ⟨q,a,u,y,B⟩=>⟨q,a,u,?_⟩);unfold endF;split
 ·rename_i hw;exact B hw
 exact y
section
variable {X:CtxF}{r:List Oper}{t:TF}{h:HF}{Q:SV→Prop}{d:Tmp}
theorem upd_self {x:Option BF}(hb:h b=x):upd h b x=h:=by
 funext j;by_cases e:j=b
 ·rw [e,zg,hb]
 rw [zm e]
theorem tH {w:List Nat}:addW n0 [] w=w:=rfl
theorem lZ {s:Operand}{a:Nat}(q:Za X ops t o d (o.op=.call {callee:=.builtin .copy,args:=#[s,x],argTypes:=#[sT,xT]}∧X.E.und sT=some (.slice e)∧X.E.inf e=some (size,bytes,z)∧evF t s=gS (some ⟨b,0,none⟩) a cap))(hx:argS h size (evF t x) m cs)(hm:m≤a)(hb:h b=some (.row c e3))(M:gP cs≤gP c)(J:ones cs=true)(p:3*X.n0≤b)
  (k:EO X ops r ⟨upd t d (gZ .i64 (m:Int)),upd h b (some (.row (cs++c.drop (gP cs)) e3)),n,w⟩ Q):EO X ops (o::r) ⟨t,h,n,w⟩ Q:=by
 obtain ⟨q,hd,hn,F,I,D,G⟩:=q;have g:FA m a=m:=AN hm;have hc:∃W,zbw X.E h n sT (evF t s) (evF t x)=some (.val (gZ .i64 (m:Int)) (upd h b (some (.row (cs++c.drop (gP cs)) e3))) n W)∧∀y∈W,y=b:=by
  obtain ⟨u,B⟩:=hx;cases cs with
  |nil=>
   refine ⟨[],?_,fun y i=>by cases i⟩;rw [Au,List.length_nil,Av,upd_self hb];simp only [zbw,I,D,G,u,g,B];rfl
  |cons v cs=>
   refine ⟨[b],?_,fun y i=>qq.1 i⟩;have H:vA h ⟨b,0,none⟩ (v::cs)=some (upd h b (some (.row ((v::cs)++c.drop (gP (v::cs))) e3))):=by
    rw [uZ hb zo J];unfold zu;rw [By,Au,sb]
   simp only [zbw,I,D,G,u,g,B,H];rfl
 obtain ⟨W,hc,K⟩:=hc;have L:effF X.E o.op (evF t) h n=some (.val (gZ .i64 (m:Int)) (upd h b (some (.row (cs++c.drop (gP cs)) e3))) n W):=by
  rw [F];exact hc
 rw [rS q (by rw [hd];exact hn) (by rw [F];rfl) L,hd,zV fun y i=>by rw [K y i];exact p];exact k
end
theorem Sl.extW {h:HF}{n:Nat}(s:Sl h n sz v c)(e:ExtT n b h h')(p:Off b v):Sl h' n sz v c:=
 s.keep (fun a l cap g=>by
  have i:=s.below;subst g;exact e _ i p) eU
theorem jK {h:HF}{n:Nat}{X:List Nat}(hb:b<3*n)(g:h b=some (.row (u64s X) e))(a:gP X≤cap):Sl h n 1 (gS (some ⟨b,0,none⟩) (gP X) cap) (u64s X):=.at_ hb g rfl a (by rw [zL];omega) (by rw [Av,pq (by rw [zL];omega)])
theorem uy {D X:List Nat}{x:Nat}(hx:X[gP D]?=some x):(D++X.drop (gP D))[gP D]?=some x:=by
 rw [ux eU,AO,BY,AJ,hx]
theorem zQ {X:List Nat}{x:Nat}(hx:X[j]?=some x):wv (X.take (j+1))=wv (X.take j)+18446744073709551616^j*x:=wJ hx
theorem yO (D:List Nat)(d:Nat):wv (D++[d])=wv D+18446744073709551616^gP D*d:=qz _ _ _
theorem wZ (D E:List Nat):wv (D++E)=wv D+18446744073709551616^gP D*wv E:=vm _ _ _
theorem pu (X:List Nat)(j:Nat)(hj:j≤gP X):wv X=wv (X.take j)+18446744073709551616^j*wv (X.drop j):=by
 conv=>lhs;rw [←Bm j X]
 rw [wZ,sn,AN hj]
theorem nK {x y c s:Nat}(a:V+c*P=U)(g:18446744073709551616*c'+s=x+y+c):V+P*s+c'*(P*18446744073709551616)=U+P*x+P*y:=by
 subst a;have:P*(18446744073709551616*c'+s)=P*(x+y+c):=by rw [g]
 rw [Ap,Ap,Ap,←Ah] at this;rw [pe c' (P*18446744073709551616),pe c P];omega
theorem vK {W x y c s:Nat}(a:V+W=U+c*P)(g:s+y+c=x+18446744073709551616*c'):V+P*s+(W+P*y)=U+P*x+c'*(P*18446744073709551616):=by
 have:P*(s+y+c)=P*(x+18446744073709551616*c'):=by rw [g]
 rw [Ap,Ap,Ap,←Ah] at this;rw [pe c' (P*18446744073709551616)];rw [pe c P] at a;omega
theorem vL {x y c:Nat}(hx:x<18446744073709551616)(g:y<18446744073709551616)(a:c≤1):(x+18446744073709551616-y-c)%18446744073709551616+y+c=x+18446744073709551616*(if y+c≤x then 0 else 1):=by
 by_cases h:y+c≤x
 ·rw [eS h];omega
 rw [eP h];omega
def RowW (n:Nat)(h:HF)(b:Nat)(e:TypeId)(h':HF)(n':Nat)(w:List Nat)(L:List Nat):Prop:=(∀c∈w,c=b)∧n'=n∧ExtT n b h h'∧h' b=some (.row (u64s L) e)
theorem zcf (k:Nat){h:HF}{n N:Nat}{M:Option Addr}{X Y:List Nat}(hb:b<3*n)(a4:h b=some (.row (u64s X) e))(a9:gP X≤cX)(hX:WdD X)(a0:Sl h n 1 (gS M l N) (u64s Y))(hY:WdD Y)(ho:Off b (gS M l N))(hl:gP Y≤gP X)(a8:gP X<1000000000)(hv:wv X+wv Y<18446744073709551616^gP X):
  CF (cal (k+1)) 186 [gS (some ⟨b,0,none⟩) (gP X) cX,gS M l N] h n fun _ h' W w=>∃L,RowW n h b e h' W w L∧WdD L∧gP L=gP X∧wv L=wv X+wv Y:=by
 refine rT (fn:=Tryz.f186) R4 ?_;have a6:=a0.lenW;subst a6;have Z:∀(t:TF) (h':HF) (w:List Nat) (D:List Nat) (c:Nat),(∀x∈w,x=b)→ExtT n b h h'→(w=[]→h'=h)→h' b=some (.row (u64s (D++X.drop (gP D))) e)→gP D≤gP X→WdD D→wv D+c*18446744073709551616^gP D=wv (X.take (gP D))+wv Y→c=0→(rI .normal=true∧∃vs,resF env ⟨t,h',n,w⟩ (Tryz.f186).results.toList=some vs∧(∃L,RowW n h b e h' n w L∧WdD L∧gP L=gP X∧wv L=wv X+wv Y)∧(w=[]→∃L,RowW n h b e h n [] L∧WdD L∧gP L=gP X∧wv L=wv X+wv Y)):=by
  intro t h' w D c g1 g2 g3 g4 g5 g6 g7 g8;have hL:∃L,RowW n h b e h' n w L∧WdD L∧gP L=gP X∧wv L=wv X+wv Y:=⟨_,⟨g1,rfl,g2,g4⟩,g6.append (hX.drop _),by rw [k0,sa];omega,by
   subst g8;rw [wZ];have h1:=pu X (gP D) g5;omega⟩
  refine ⟨rfl,[],rfl,hL,fun F=>?_⟩;subst F;rw [g3 rfl] at hL;exact hL
 refine Zw ?_;refine ye (α:=List Nat×Nat) (fun z=>[(0,gS (some ⟨b,0,none⟩) (gP X) cX),(1,gS M (gP Y) N),(4,gZ .u64 (z.2:Int)),(8,gS M (gP Y) N),(9,gZ .i64 (gP Y:Int)),(10,gZ .i64 (gP z.1:Int))])
  (fun z h' W w=>n=W∧(∀x∈w,x=b)∧ExtT n b h h'∧(w=[]→h'=h)∧h' b=some (.row (u64s (z.1++X.drop (gP z.1))) e)∧gP z.1≤gP Y∧WdD z.1∧z.2≤1∧wv z.1+z.2*18446744073709551616^gP z.1=wv (X.take (gP z.1))+wv (Y.take (gP z.1))) (fun z=>gP Y-gP z.1)
  ([],0) ⟨rfl,rfl,rfl,rfl,rfl,rfl,eT⟩ ⟨rfl,fun x u=>eN u og,ExtT.refl _ _ _,fun _=>rfl,a4,gH,WdD.nil,by show (0:Nat)≤1;decide,by simp [wv,dv]⟩ (by show gP Y-0<LL;unfold LL;omega) ?_
 rintro ⟨D,c⟩ t h1 _ w ⟨rfl,F,i,G,a,K,g,I,p⟩;simp only at a K g I p;refine zN ?_;by_cases hDY:gP D=gP Y;case neg=>
  obtain ⟨y,hy⟩:∃y,Y[gP D]?=some y:=⟨Y[gP D]'zo,kF zo⟩;obtain ⟨x,u⟩:∃x,X[gP D]?=some x:=⟨X[gP D]'zo,kF zo⟩;have aa:=hY.get hy;have a7:=hX.get u;have O:=jK (cap:=cX) hb a (by rw [k0,sa];omega);rw [show (D++X.drop (gP D)).length=gP X from by rw [k0,sa];omega] at O;refine Zr ?_;refine yE (f:=fun d:Nat=>gZ .u64 (d:Int)) (j:=gP D) R7 (a0.extW i ho) R2 hy (fun _=>rfl) R4 fun _=>?_;refine Zm ?_;refine yE (f:=fun d:Nat=>gZ .u64 (d:Int)) (j:=gP D) R7 O R2 (uy u) (fun _=>rfl) R4 fun _=>?_;repeat refine zR ?_
  refine vt (x:=x) (y:=y) (c:=c) R5 I ?_;obtain ⟨s,J⟩:∃s,s=(x+y+c)%18446744073709551616:=⟨_,rfl⟩;obtain ⟨c',q⟩:∃c',c'=(x+y+c)/18446744073709551616:=⟨_,rfl⟩;rw [←J,←q];repeat refine zR ?_
  refine yG (j:=gP D) (off:=0) (v:=gZ .u64 (s:Int)) R8 rfl ⟨zo,by rw [zL,k0,sa];omega⟩ a hb (fun _=>rfl) R3 (fun _=>rfl) rfl fun _=>?_;rw [sb,yk,tg _ u];refine Zo ?_;have T:s<18446744073709551616:=by rw [J];exact Az _ zd
  have R:c'≤1:=by rw [q];omega
  have S:18446744073709551616*c'+s=x+y+c:=by rw [J,q];omega
  refine goOn (D++[s],c') (by show gP Y-gP (D++[s])<gP Y-gP D;rw [k0,nP];omega) ⟨rfl,rfl,rfl,rfl,rfl,by show gZ .i64 _=gZ .i64 _;rw [k0];rfl,eT⟩ ⟨rfl,fun z B=>by
   rcases Ad.1 B with rfl|B
   ·rfl
   ·exact F z B,fun z B H=>(zm H).trans (i z B H),fun h=>(by cases h),zg _ _ _,by show gP (D++[s])≤_;rw [k0,nP];omega,WdD.snoc g T,R,?_⟩
  simp only;rw [k0,nP,yO,zQ u,zQ hy,Ac];have:=nK p S;omega
 have a3:Y.take (gP D)=Y:=by rw [hDY,xd]
 rw [a3] at p;refine Zp ?_;refine ye (α:=List Nat×Nat) (fun z=>[(0,gS (some ⟨b,0,none⟩) (gP X) cX),(4,gZ .u64 (z.2:Int)),(7,gZ .i64 (gP z.1:Int))])
  (fun z h' W w=>n=W∧(∀x∈w,x=b)∧ExtT n b h h'∧(w=[]→h'=h)∧h' b=some (.row (u64s (z.1++X.drop (gP z.1))) e)∧gP z.1≤gP X∧WdD z.1∧z.2≤1∧wv z.1+z.2*18446744073709551616^gP z.1=wv (X.take (gP z.1))+wv Y) (fun z=>gP X-gP z.1)
  (D,c) ⟨rfl,rfl,by show gZ .i64 _=gZ .i64 _;rw [hDY],eT⟩ ⟨rfl,F,i,G,a,by show gP D≤_;omega,g,I,p⟩ (by show gP X-gP D<LL;unfold LL;omega) ?_
 clear p I g a G i F a3 hDY K;rintro ⟨D,c⟩ t h1 _ w ⟨rfl,F,i,G,a,K,g,I,p⟩;simp only at a K g I p;refine zN ?_;by_cases hc0:c=0
 ·refine Zl ?_;exact Z _ _ _ D c F i G a K g p hc0
 by_cases hDX:gP D=gP X
 ·refine Zl ?_;refine Z _ _ _ D c F i G a K g p ?_;have a5:=wW g;rw [hDX,xd] at p;rw [hDX] at a5;rcases BN c with h|h
  ·exact h
  have:=o0 (18446744073709551616^gP X) h;omega
 obtain ⟨x,u⟩:∃x,X[gP D]?=some x:=⟨X[gP D]'zo,kF zo⟩;have a7:=hX.get u;have O:=jK (cap:=cX) hb a (by rw [k0,sa];omega);rw [show (D++X.drop (gP D)).length=gP X from by rw [k0,sa];omega] at O;refine Zr ?_;refine yE (f:=fun d:Nat=>gZ .u64 (d:Int)) (j:=gP D) R7 O R2 (uy u) (fun _=>rfl) R4 fun _=>?_;repeat refine zR ?_
 refine vt (x:=x) (y:=0) (c:=c) R5 I ?_;obtain ⟨s,J⟩:∃s,s=(x+0+c)%18446744073709551616:=⟨_,rfl⟩;obtain ⟨c',q⟩:∃c',c'=(x+0+c)/18446744073709551616:=⟨_,rfl⟩;rw [←J,←q];repeat refine zR ?_
 refine yG (j:=gP D) (off:=0) (v:=gZ .u64 (s:Int)) R8 rfl ⟨zo,by rw [zL,k0,sa];omega⟩ a hb (fun _=>rfl) R3 (fun _=>rfl) rfl fun _=>?_;rw [sb,yk,tg _ u];refine Zo ?_;have T:s<18446744073709551616:=by rw [J];exact Az _ zd
 have R:c'≤1:=by rw [q];omega
 have S:18446744073709551616*c'+s=x+0+c:=by rw [J,q];omega
 refine goOn (D++[s],c') (by show gP X-gP (D++[s])<gP X-gP D;rw [k0,nP];omega) ⟨rfl,rfl,by show gZ .i64 _=gZ .i64 _;rw [k0];rfl,eT⟩ ⟨rfl,fun z B=>by
  rcases Ad.1 B with rfl|B
  ·rfl
  ·exact F z B,fun z B H=>(zm H).trans (i z B H),fun h=>(by cases h),zg _ _ _,by show gP (D++[s])≤_;rw [k0,nP];omega,WdD.snoc g T,R,?_⟩
 simp only;rw [k0,nP,yO,zQ u,Ac];have:=nK p S;omega
theorem mB (k:Nat){h:HF}{n N:Nat}{M:Option Addr}{X Y:List Nat}(hb:b<3*n)(a6:h b=some (.row (u64s X) e))(aa:gP X≤cX)(hX:WdD X)(a3:Sl h n 1 (gS M l N) (u64s Y))(hY:WdD Y)(ho:Off b (gS M l N))(hl:gP Y≤gP X)(a9:gP X<1000000000)(hv:wv Y≤wv X):
  CF (cal (k+1)) 197 [gS (some ⟨b,0,none⟩) (gP X) cX,gS M l N] h n fun _ h' Z w=>∃L,RowW n h b e h' Z w L∧WdD L∧gP L=gP X∧wv L+wv Y=wv X:=by
 refine rT (fn:=Tryz.f197) R4 ?_;have a8:=a3.lenW;subst a8;have a0:∀(t:TF) (h':HF) (w:List Nat) (D:List Nat) (c:Nat),(∀x∈w,x=b)→ExtT n b h h'→(w=[]→h'=h)→h' b=some (.row (u64s (D++X.drop (gP D))) e)→gP D≤gP X→WdD D→wv D+wv Y=wv (X.take (gP D))+c*18446744073709551616^gP D→c=0→(rI .normal=true∧∃vs,resF env ⟨t,h',n,w⟩ (Tryz.f197).results.toList=some vs∧(∃L,RowW n h b e h' n w L∧WdD L∧gP L=gP X∧wv L+wv Y=wv X)∧(w=[]→∃L,RowW n h b e h n [] L∧WdD L∧gP L=gP X∧wv L+wv Y=wv X)):=by
  intro t h' w D c g1 g2 g3 g4 g5 g6 g7 g8;have hL:∃L,RowW n h b e h' n w L∧WdD L∧gP L=gP X∧wv L+wv Y=wv X:=⟨_,⟨g1,rfl,g2,g4⟩,g6.append (hX.drop _),by rw [k0,sa];omega,by
   subst g8;rw [wZ];have h1:=pu X (gP D) g5;omega⟩
  refine ⟨rfl,[],rfl,hL,fun G=>?_⟩;subst G;rw [g3 rfl] at hL;exact hL
 refine Zw ?_;refine ye (α:=List Nat×Nat) (fun z=>[(0,gS (some ⟨b,0,none⟩) (gP X) cX),(1,gS M (gP Y) N),(4,gZ .u64 (z.2:Int)),(8,gS M (gP Y) N),(9,gZ .i64 (gP Y:Int)),(10,gZ .i64 (gP z.1:Int))])
  (fun z h' Z w=>n=Z∧(∀x∈w,x=b)∧ExtT n b h h'∧(w=[]→h'=h)∧h' b=some (.row (u64s (z.1++X.drop (gP z.1))) e)∧gP z.1≤gP Y∧WdD z.1∧z.2≤1∧wv z.1+wv (Y.take (gP z.1))=wv (X.take (gP z.1))+z.2*18446744073709551616^gP z.1) (fun z=>gP Y-gP z.1)
  ([],0) ⟨rfl,rfl,rfl,rfl,rfl,rfl,eT⟩ ⟨rfl,fun x u=>eN u og,ExtT.refl _ _ _,fun _=>rfl,a6,gH,WdD.nil,by show (0:Nat)≤1;decide,by simp [wv,dv]⟩ (by show gP Y-0<LL;unfold LL;omega) ?_
 rintro ⟨D,c⟩ t h1 _ w ⟨rfl,G,i,H,a,K,g,F,p⟩;simp only at a K g F p;refine zN ?_;by_cases hDY:gP D=gP Y;case neg=>
  obtain ⟨y,hy⟩:∃y,Y[gP D]?=some y:=⟨Y[gP D]'zo,kF zo⟩;obtain ⟨x,u⟩:∃x,X[gP D]?=some x:=⟨X[gP D]'zo,kF zo⟩;have a5:=hY.get hy;have W:=hX.get u;have O:=jK (cap:=cX) hb a (by rw [k0,sa];omega);rw [show (D++X.drop (gP D)).length=gP X from by rw [k0,sa];omega] at O;refine Zr ?_;refine yE (f:=fun d:Nat=>gZ .u64 (d:Int)) (j:=gP D) R7 (a3.extW i ho) R2 hy (fun _=>rfl) R4 fun _=>?_;refine Zm ?_;refine yE (f:=fun d:Nat=>gZ .u64 (d:Int)) (j:=gP D) R7 O R2 (uy u) (fun _=>rfl) R4 fun _=>?_;repeat refine zR ?_
  refine rn (x:=x) (y:=y) (c:=c) R5 F ?_;obtain ⟨s,J⟩:∃s,s=(x+18446744073709551616-y-c)%18446744073709551616:=⟨_,rfl⟩;obtain ⟨c',q⟩:∃c',c'=(if y+c≤x then 0 else 1):=⟨_,rfl⟩;rw [←J,←q];repeat refine zR ?_
  refine yG (j:=gP D) (off:=0) (v:=gZ .u64 (s:Int)) R8 rfl ⟨zo,by rw [zL,k0,sa];omega⟩ a hb (fun _=>rfl) R3 (fun _=>rfl) rfl fun _=>?_;rw [sb,yk,tg _ u];refine Zo ?_;have T:s<18446744073709551616:=by rw [J];exact Az _ zd
  have R:c'≤1:=by rw [q];split<;>decide
  have S:s+y+c=x+18446744073709551616*c':=by rw [J,q];exact vL W (by first|exact a5|decide) F
  refine goOn (D++[s],c') (by show gP Y-gP (D++[s])<gP Y-gP D;rw [k0,nP];omega) ⟨rfl,rfl,rfl,rfl,rfl,by show gZ .i64 _=gZ .i64 _;rw [k0];rfl,eT⟩ ⟨rfl,fun z B=>by
   rcases Ad.1 B with rfl|B
   ·rfl
   ·exact G z B,fun z B I=>(zm I).trans (i z B I),fun h=>(by cases h),zg _ _ _,by show gP (D++[s])≤_;rw [k0,nP];omega,WdD.snoc g T,R,?_⟩
  simp only;rw [k0,nP,yO,zQ u,zQ hy,Ac];have:=vK p S;omega
 have a4:Y.take (gP D)=Y:=by rw [hDY,xd]
 rw [a4] at p;refine Zp ?_;refine ye (α:=List Nat×Nat) (fun z=>[(0,gS (some ⟨b,0,none⟩) (gP X) cX),(4,gZ .u64 (z.2:Int)),(7,gZ .i64 (gP z.1:Int))])
  (fun z h' Z w=>n=Z∧(∀x∈w,x=b)∧ExtT n b h h'∧(w=[]→h'=h)∧h' b=some (.row (u64s (z.1++X.drop (gP z.1))) e)∧gP z.1≤gP X∧WdD z.1∧z.2≤1∧wv z.1+wv Y=wv (X.take (gP z.1))+z.2*18446744073709551616^gP z.1) (fun z=>gP X-gP z.1)
  (D,c) ⟨rfl,rfl,by show gZ .i64 _=gZ .i64 _;rw [hDY],eT⟩ ⟨rfl,G,i,H,a,by show gP D≤_;omega,g,F,p⟩ (by show gP X-gP D<LL;unfold LL;omega) ?_
 clear p F g a H i G a4 hDY K;rintro ⟨D,c⟩ t h1 _ w ⟨rfl,G,i,H,a,K,g,F,p⟩;simp only at a K g F p;refine zN ?_;by_cases hc0:c=0
 ·refine Zl ?_;exact a0 _ _ _ D c G i H a K g p hc0
 by_cases hDX:gP D=gP X
 ·refine Zl ?_;refine a0 _ _ _ D c G i H a K g p ?_;have a7:=wW g;rw [hDX,xd] at p;rw [hDX] at a7;rcases BN c with h|h
  ·exact h
  have:=o0 (18446744073709551616^gP X) h;omega
 obtain ⟨x,u⟩:∃x,X[gP D]?=some x:=⟨X[gP D]'zo,kF zo⟩;have W:=hX.get u;have O:=jK (cap:=cX) hb a (by rw [k0,sa];omega);rw [show (D++X.drop (gP D)).length=gP X from by rw [k0,sa];omega] at O;refine Zr ?_;refine yE (f:=fun d:Nat=>gZ .u64 (d:Int)) (j:=gP D) R7 O R2 (uy u) (fun _=>rfl) R4 fun _=>?_;repeat refine zR ?_
 refine rn (x:=x) (y:=0) (c:=c) R5 F ?_;obtain ⟨s,J⟩:∃s,s=(x+18446744073709551616-0-c)%18446744073709551616:=⟨_,rfl⟩;obtain ⟨c',q⟩:∃c',c'=(if 0+c≤x then 0 else 1):=⟨_,rfl⟩;rw [←J,←q];repeat refine zR ?_
 refine yG (j:=gP D) (off:=0) (v:=gZ .u64 (s:Int)) R8 rfl ⟨zo,by rw [zL,k0,sa];omega⟩ a hb (fun _=>rfl) R3 (fun _=>rfl) rfl fun _=>?_;rw [sb,yk,tg _ u];refine Zo ?_;have T:s<18446744073709551616:=by rw [J];exact Az _ zd
 have R:c'≤1:=by rw [q];split<;>decide
 have S:s+0+c=x+18446744073709551616*c':=by rw [J,q];exact vL W (by first|exact a5|decide) F
 refine goOn (D++[s],c') (by show gP X-gP (D++[s])<gP X-gP D;rw [k0,nP];omega) ⟨rfl,rfl,by show gZ .i64 _=gZ .i64 _;rw [k0];rfl,eT⟩ ⟨rfl,fun z B=>by
  rcases Ad.1 B with rfl|B
  ·rfl
  ·exact G z B,fun z B I=>(zm I).trans (i z B I),fun h=>(by cases h),zg _ _ _,by show gP (D++[s])≤_;rw [k0,nP];omega,WdD.snoc g T,R,?_⟩
 simp only;rw [k0,nP,yO,zQ u,Ac];have:=vK p S;omega
theorem xr {n:Nat}{h:HF}{L:List Nat}(hb:b<3*n)(g:h b=some (.row (u64s L) e))(a:gP L=l):Sl h n 1 (gS (some ⟨b,0,none⟩) l l) (u64s L):=by
 subst a;exact jK hb g eU
theorem xD {L:List Nat}(h:WdD L):NW (yf L)∧wv (yf L)=wv L:=⟨NW.trim h,pv _ _⟩
def zoh (n:Nat)(v u1 u2:Value):Prop:=xC n v∨v=u1∨v=u2
theorem dK (k:Nat){h:HF}{n:Nat}(H:Sl h n 1 (gS a1 l1 c1) (u64s A))(I:Sl h n 1 (gS a2 l2 c2) (u64s C))(nA:NW A)(nC:NW C)(hb:gP A<100000000∧gP C<100000000):
  CF (cal (k+2)) 165 [gS a1 l1 c1,gS a2 l2 c2] h n fun v h' N w=>∃L,ResW n h v h' N w L∧wv L=wv A+wv C∧zoh n v (gS a1 l1 c1) (gS a2 l2 c2):=by
 refine zw (fn:=Tryz.f165) R4 ?_;have e1:=H.lenW;have e2:=I.lenW;subst e1 e2;refine Zd ?_;refine zM ?_;refine st_I (ik:=.i64) (a:=(gP A:Int)) R5 ?_;refine zM ?_;refine st_I (ik:=.i64) (a:=(gP C:Int)) R5 ?_;refine lW R6 ?_;simp only [yu,xg,zK,yY];refine yj (α:=(Option Addr×Nat×List Nat)×(Option Addr×Nat×List Nat)) (fun z=>[(0,gS z.1.1 (gP z.1.2.2) z.1.2.1),(1,gS z.2.1 (gP z.2.2.2) z.2.2.1)]) (fun z h' N w=>h=h'∧n=N∧w=[]∧Sl h n 1 (gS z.1.1 (gP z.1.2.2) z.1.2.1) (u64s z.1.2.2)∧Sl h n 1 (gS z.2.1 (gP z.2.2.2) z.2.2.1) (u64s z.2.2.2)∧NW z.1.2.2∧NW z.2.2.2∧gP z.2.2.2≤gP z.1.2.2∧gP z.1.2.2<100000000∧wv z.1.2.2+wv z.2.2.2=wv A+wv C∧(gS z.1.1 (gP z.1.2.2) z.1.2.1=gS a1 (gP A) c1∨gS z.1.1 (gP z.1.2.2) z.1.2.1=gS a2 (gP C) c2)) ?_ ?_
 ·by_cases hlt:gP A<gP C
  ·rw [ze (by show jx _=_;rw [eH zo])];refine Zd ?_;exact zA ((a2,c2,C),(a1,c1,A)) ⟨rfl,rfl,eT⟩ ⟨rfl,rfl,rfl,I,H,nC,nA,by show gP A≤gP C;omega,hb.2,Bj _ _,.inr rfl⟩
  rw [za (by show jx _=_;rw [cA zo])];refine zN ?_;exact zA ((a1,c1,A),(a2,c2,C)) ⟨rfl,rfl,eT⟩ ⟨rfl,rfl,rfl,H,I,nA,nC,by show gP C≤gP A;omega,hb.1,rfl,.inl rfl⟩
 rintro ⟨⟨a,c,X⟩,⟨a',c',Y⟩⟩ t _ _ _ ⟨rfl,rfl,rfl,J,K,u,O,D,W,q,hv⟩;simp only at J K u O D W q hv;rw [←q];refine zN ?_;by_cases hY0:gP Y=0
 ·refine Zq ?_;rw [vT.1 hY0];exact retH _ ⟨rfl,(zi rfl),rfl⟩ ⟨X,⟨rfl,eU,Ext.refl _ _,J,u⟩,rfl,.inr hv⟩
 refine Zg ?_;refine Zj ?_;refine vB (len:=gP X+1) (cap:=gP X+1) R9 zo ?_;rw [show zn (gZ .u64 0)=[gZ .u64 0] from rfl,xO];refine Zm ?_;have B:=J.ext (Ext.upd (h:=h) (b:=3*n+2) (x:=some (.row (u64s (ns (gP X+1) 0)) 196)) (show 3*n≤3*n+2 by omega)) (Al n);refine lZ (m:=gP X) R7 (uX B) zs (zg _ _ _) (by rw [zL,zL];simp) (xW X) (by show 3*n≤3*n+2;omega) ?_;rw [uk,zL,rf,←vg,List.drop_replicate,show (gP X)+1-gP X=1 from zo];generalize hh:upd h (3*n+2) _=s;have p:∃e,s (3*n+2)=some (.row (u64s (X++[0])) e):=⟨_,by rw [←hh,zg];rfl⟩;obtain ⟨e,p⟩:=p;have G:Ext n h s:=by rw [←hh];exact Ext.upd zo
 clear hh B;have g:gP (X++[0])=gP X+1:=by simp
 have F:wv (X++[0])=wv X:=by rw [yO,Bp,AJ]
 have M:wv (X++[0])+wv Y<18446744073709551616^gP (X++[0]):=by
  have s:=wW u.1;have R:=wW O.1;have h3:18446744073709551616^gP Y≤18446744073709551616^gP X:=sN zd D;rw [F,g,Ac];omega
 refine Zj ?_;have i:=zcf k (h:=s) (n:=n+1) (b:=3*n+2) (X:=X++[0]) (cX:=gP X+1) zo p zo (WdD.snoc u.1 zd) (K.ext G (Al n)) O.1 (K.below.off zo) zo zo M;rw [g] at i;refine zF _ R5 i ?_;rintro _ R _ w2 ⟨L,⟨a3,rfl,a4,Z⟩,S,a5,T⟩;try simp only [tH]
 rw [zV (w:=[]) fun y hy=>by rw [a3 y hy];show 3*n≤3*n+2;omega];refine Zm ?_;have a0:=xi k (h:=R) (n:=n+1) (a:=some ⟨3*n+2,0,none⟩) (len:=gP X+1) (cap:=gP X+1) (l:=L) zo (fun _ e=>by injection e with e;rw [←e]) (xr zo Z zo);refine zF _ R5 a0 ?_;rintro _ _ _ _ ⟨rfl,rfl,rfl,rfl,hs⟩;refine Zb ?_;obtain ⟨t1,t2⟩:=xD S;exact retH _ ⟨rfl,(zi rfl),rfl⟩ ⟨_,⟨rfl,Al n,fun b hb=>(a4 b zo zo).trans (G b hb),hs,t1⟩,by rw [t2,T,F],.inl (by show 3*n≤3*n+2;omega)⟩
theorem fe (k:Nat){h:HF}{n:Nat}(u:Sl h n 1 (gS a1 l1 c1) (u64s A))(B:Sl h n 1 (gS a2 l2 c2) (u64s C))(F:NW A)(S:NW C)(hb:gP A<100000000)(J:wv C≤wv A):
  CF (cal (k+2)) 166 [gS a1 l1 c1,gS a2 l2 c2] h n fun v h' n' w=>∃L,ResW n h v h' n' w L∧wv L=wv A-wv C∧zoh n v (gS a1 l1 c1) (gS a2 l2 c2):=by
 refine zw (fn:=Tryz.f166) R4 ?_;have T:=u.lenW;have W:=B.lenW;subst T W;have g:gP C≤gP A:=by
  rcases Nat.lt_or_ge (gP A) (gP C) with D|D
  ·have:=F.len_lt S D;omega
  exact D
 refine Zd ?_;by_cases hC0:gP C=0
 ·refine Zq ?_;rw [vT.1 hC0];exact retH _ ⟨rfl,(zi rfl),rfl⟩ ⟨A,⟨rfl,eU,Ext.refl _ _,u,F⟩,rfl,.inr (.inl rfl)⟩
 refine Zz ?_;refine zF _ R5 (ub k u zo) ?_;rintro v1 h1 n1 _ ⟨rfl,q,s,a3,I⟩;obtain ⟨b,rfl,_,i,p,K,_⟩:=(I (fun e=>by rw [e] at g;simp at g;exact hC0 (by rw [g];rfl))).inv2 zo;refine Zm ?_;refine zF _ R5 (mB k (cX:=gP A) p K eU F.1 (B.ext s q) S.1 (B.below.off zo) g zo J) ?_;rintro _ Y n2 w2 ⟨L,⟨O,rfl,R,M⟩,G,H,a0⟩;try simp only [tH]
 rw [zV (w:=[]) fun y hy=>by rw [O y hy];exact i];refine Zm ?_;have N:=xi k (h:=Y) (n:=n2) (a:=some ⟨b,0,none⟩) (len:=gP A) (cap:=gP A) (l:=L) zo (fun _ e=>by injection e with e;rw [←e]) (xr p M H);refine zF _ R5 N ?_;rintro _ _ _ _ ⟨rfl,rfl,rfl,rfl,hs⟩;refine Zb ?_;obtain ⟨t1,t2⟩:=xD G;exact retH _ ⟨rfl,(zi rfl),rfl⟩ ⟨_,⟨rfl,q,fun c Z=>(R c zo zo).trans (s c Z),hs,t1⟩,by rw [t2];omega,.inl i⟩
end Go.Proofs.YtepkmadmigkgmaaGreatDoor
