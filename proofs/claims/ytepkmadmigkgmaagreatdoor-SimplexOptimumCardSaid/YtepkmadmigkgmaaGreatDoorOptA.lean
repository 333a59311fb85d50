import GoSem.Dispatch
import GoSem.Machine.Frame
import Derived.RangeFuncIn
import Derived.OrdersIn
import Derived.Laws.OwnMore
import Derived.Lib.Strings
import Derived.Lib.IndexBytes
import Derived.Laws.StructEq
import Derived.Laws.BytesArg
import Derived.Laws.Append
import Derived.Laws.MakeOwn
import Derived.RangeFuncLeaves
import Derived.RangeFuncRecord
import Derived.RangeFuncCalls
import Derived.Test.YtepkmadmigkgmaaGreatDoorProg
import Derived.KernelRfl
open Array renaming ext'→CR,foldl_toList→Gm,getElem?_eq_getElem→CZ,getElem?_eq_none→B1,getElem?_eq_some_iff→Aw,getElem?_modify→En,getElem?_push→DY,getElem?_setIfInBounds_ne→Db,getElem?_toList→Dz,getElem_mem→DE,map→G2,mapM_eq_mapM_toList→Fb,map_congr_left→FS,mem_iff_getElem→FN,range→Hg,replicate→C0
open BitVec renaming ofInt→CL
open Bool renaming and_eq_true→AA,eq_iff_iff→EN,false_eq_true→A1,not_eq_true'→BT,not_true→Dx,or_eq_true→D6,rec→D1
open Classical renaming byContradiction→tp
open Go renaming isAgg→HA
open Go.Act renaming eval→E5,put→HH
open Go.Addr renaming add→Cu
open Go.Builtin renaming append_→Du,copy_→D4,firstCells→BK,lenOf→Ew,len_→FC,zeroCells→C4
open Go.ByteArray renaming toList_eq→DX
open Go.Conv renaming stringToBytes→Gn
open Go.Deferred renaming ofValue→Ep
open Go.Fence renaming wide→Cn
open Go.Instr renaming build→Hf,fill→HC,index→He,indexAt→Gi,slice→Fj,sliceAt→Da,sliceBound→DR,sliceBounds→Fi,sureAddr→DL,yield→Hh
open Go.IntKind renaming u8→Gp
open Go.Lib renaming extract_data→G1
open Go.Op renaming eqFields→Ha,equalIn→E3,intArith→Hb,operands→CC,stringOp→Hc
open Go.Oper renaming semAt_eq→Ey
open Go.Proofs.Tryz renaming prog→sP
open Go.Question renaming forced→Hn
open Go.Region renaming binds→Bt,ready→GI,wanted→Ez
open Go.Result renaming andThen_ok→Ax
open Go.Sem renaming run_bind→AX,run_pure→Cm
open Go.Value renaming bool→jx,cells→BI,func→Er,int→gZ,oneCell'→BO,pointer→mo,slice→gS,string→jy
open Go.World renaming cell?→Fk,putObj_heap_other→Cf,setCell→Gj
open Int renaming negSucc_eq→HB
open List renaming all_eq_true→BP,drop_set_of_lt→Gb,foldl_cons→EP,getD→Ec,getElem?_append_left→AG,getElem?_eq_getElem→kF,getElem?_eq_none→Ae,getElem?_eq_some_iff→nN,length→gP,length_cons→Ao,map→GH,mapM_cons→FQ,map_append→AP,map_congr_left→A2,map_cons→C9,map_drop→Ev,map_id→Eb,map_inj_left→Fl,map_take→Dw,map_toArray→Ft,mem_append→AY,mem_cons→Ad,mem_map→AZ,mem_of_mem_drop→Bq,mem_of_mem_take→AB,nodup_cons→EQ,nodup_nil→E6,not_mem_nil→og,pairwise_cons→Gq,range→AI,range'→FR,replicate→ns,take_append_of_le_length→Bu,take_set_of_le→Ga,take_succ_eq_append_getElem→Ck
open Nat renaming add_mul→An,add_zero→AJ,beq→AD,ble→Ag,ble_eq_true_of_le→oo,blt→Eh,eq_of_beq_eq_true→Ay,le_add_right→CQ,le_of_ble_eq_true→tu,le_of_not_lt→De,le_refl→AL,le_trans→Aa,lt_irrefl→EA,lt_of_lt_of_le→Af,lt_of_not_le→Cw,lt_or_gt_of_ne→D9,min→FA,ne_of_beq_eq_false→Dl,not_lt→Gr,not_lt_zero→AQ,rec→Fh,strongRecOn→C1,succ_mul→Bo,zero_add→sb
open Option renaming bind_some→DS,isSome_iff_exists→Aq,map_eq_some_iff→A7
open Option.some renaming inj→Bx
open UInt8 renaming ofNat→Bd
set_option maxHeartbeats 8000000
set_option linter.unusedVariables false
set_option linter.unusedSimpArgs false
namespace Go
theorem cA {p:Prop}[i:Decidable p](h:¬p):decide p=false:=decide_eq_false h
theorem eH {p:Prop}[i:Decidable p](h:p):decide p=true:=decide_eq_true h
theorem eN {a b:Prop}(h:a)(g:¬a):b:=absurd h g
theorem eP {c:Prop}{i:Decidable c}(h:¬c){α:Sort _}{t e:α}:(ite c t e)=e:=if_neg h
theorem eS {c:Prop}{i:Decidable c}(h:c){α:Sort _}{t e:α}:(ite c t e)=t:=if_pos h
theorem eT:True:=trivial
theorem eU {n:Nat}:n≤n:=AL n
theorem gH {n:Nat}:0≤n:=Nat.zero_le n
theorem gN {p:Prop}(h:p:=by simp):p:=h
theorem zo {p : Prop} (h : p := by omega) : p := h
theorem zd {p : Prop} (h : p := by decide) : p := h
theorem zs {n : Nat} : n ≤ n + 1 := Nat.le_succ n
theorem zb {a b : Nat} (h : Nat.ble a b = true := by exact rfl) : a ≤ b := Nat.le_of_ble_eq_true h
theorem R2 {A B : Sort _} {a : A} {b : B} : a = a ∧ b = b := ⟨rfl, rfl⟩
theorem R3 {A B C : Sort _} {a : A} {b : B} {c : C} : a = a ∧ b = b ∧ c = c := ⟨rfl, rfl, rfl⟩
theorem R4 {A B C D : Sort _} {a : A} {b : B} {c : C} {d : D} : a = a ∧ b = b ∧ c = c ∧ d = d := ⟨rfl, rfl, rfl, rfl⟩
theorem R5 {A B C D E : Sort _} {a : A} {b : B} {c : C} {d : D} {e : E} : a = a ∧ b = b ∧ c = c ∧ d = d ∧ e = e := ⟨rfl, rfl, rfl, rfl, rfl⟩
theorem R6 {A B C D E F : Sort _} {a : A} {b : B} {c : C} {d : D} {e : E} {f : F} : a = a ∧ b = b ∧ c = c ∧ d = d ∧ e = e ∧ f = f := ⟨rfl, rfl, rfl, rfl, rfl, rfl⟩
theorem R7 {A B C D E F G : Sort _} {a : A} {b : B} {c : C} {d : D} {e : E} {f : F} {g : G} : a = a ∧ b = b ∧ c = c ∧ d = d ∧ e = e ∧ f = f ∧ g = g := ⟨rfl, rfl, rfl, rfl, rfl, rfl, rfl⟩
theorem R8 {A B C D E F G H : Sort _} {a : A} {b : B} {c : C} {d : D} {e : E} {f : F} {g : G} {h : H} : a = a ∧ b = b ∧ c = c ∧ d = d ∧ e = e ∧ f = f ∧ g = g ∧ h = h := ⟨rfl, rfl, rfl, rfl, rfl, rfl, rfl, rfl⟩
theorem R9 {A B C D E F G H I : Sort _} {a : A} {b : B} {c : C} {d : D} {e : E} {f : F} {g : G} {h : H} {i : I} : a = a ∧ b = b ∧ c = c ∧ d = d ∧ e = e ∧ f = f ∧ g = g ∧ h = h ∧ i = i := ⟨rfl, rfl, rfl, rfl, rfl, rfl, rfl, rfl, rfl⟩
end Go
namespace Go.GL
open Go
variable {w0 w':World}{ops:Array Oper}{n nt size cap len off m' sz n' n0 bt l m b d r k L N:Nat}{β α:Type}{a:Act}{In:Nat→Prop}{Ms W:List Nat}{body:Code}{v0 v z:Value}{ty xT:TypeId}{cs vs c:List Value}{tm:Array Value}{g' g:Operand→Value}{x y:Operand}{o:Oper}{F:Fence}{P:Program}{Q:Exit→Act→World→Prop}
variable {i j u:Nat}{e t sT:TypeId}{args:List Value}{f:FuncId}
inductive Tr (α:Type) where
 |lf
 |nd (l:Tr α) (v:α) (r:Tr α)
noncomputable def Tr.get {α:Type}(d:α)(t:Tr α):Nat→α:=
 Tr.rec (motive:=fun _=>Nat→α) (fun _=>d)
  (fun _ x _ il ir i=>Fh (motive:=fun _=>α) x (fun j _=>D1 (motive:=fun _=>α) (ir (j/2)) (il (j/2)) (AD (j%2) 0)) i) t
class Dflt (α:Type) where
 d:α
instance:Dflt Value:=⟨undef⟩
instance {α:Type}:Dflt (Option α):=⟨none⟩
noncomputable def Tr.new {α:Type}(d v:α)(fuel:Nat):Nat→Tr α:=
 Fh (motive:=fun _=>Nat→Tr α) (fun _=>.nd .lf v .lf)
  (fun _ ih i=>Fh (motive:=fun _=>Tr α) (.nd .lf v .lf) (fun j _=>D1 (motive:=fun _=>Tr α) (.nd .lf d (ih (j/2))) (.nd (ih (j/2)) d .lf) (AD (j%2) 0)) i) fuel
noncomputable def Tr.set {α β:Type}[Dflt α](t:Tr α):Nat→α→(Tr α→Option β)→Option β:=
 Tr.rec (motive:=fun _=>Nat→α→(Tr α→Option β)→Option β) (fun i v k=>k (Tr.new Dflt.d v i i))
  (fun l x r il ir i v k=>Fh (motive:=fun _=>Option β) (k (.nd l v r))
   (fun j _=>D1 (motive:=fun _=>Option β) (ir (j/2) v fun r=>k (.nd l x r)) (il (j/2) v fun l=>k (.nd l x r)) (AD (j%2) 0)) i) t
noncomputable def Tr.mk {α:Type}(d:α)(n:Nat):Tr α:=Fh (motive:=fun _=>Tr α) .lf (fun _ t=>.nd t d t) n
noncomputable def uP {β:Type}(n:Nat)(k:Nat→β):β:=Fh (motive:=fun _=>β) (k 0) (fun m _=>k (Nat.succ m)) n
noncomputable def ze4 {β:Type}(n:Int)(k:Int→β):β:=match n with| .ofNat m=>uP m fun m=>k (.ofNat m)| .negSucc m=>uP m fun m=>k (.negSucc m)
noncomputable def pa {α β:Type}(l:List α):(List α→β)→β:=
 List.rec (motive:=fun _=>(List α→β)→β) (fun k=>k []) (fun a _ ih k=>ih fun l=>k (a::l)) l
noncomputable def br {β:Type}(a:Addr)(k:Addr→β):β:=match a with|⟨b,o,s⟩=>uP b fun b=>uP o fun o=>match s with|none=>k ⟨b,o,none⟩|some s=>k ⟨b,o,some s⟩
noncomputable def bp {β:Type}(v:Value)(k:Value→β):β:=
 match v with
 | jx b=>(match b with|true=>k (jx true)|false=>k (jx false))
 | gZ ik n=>ze4 n fun n=>k (gZ ik n)
 | jy ⟨⟨l⟩⟩=>pa l fun l=>k (jy ⟨⟨l⟩⟩)
 | mo (some a)=>br a fun a=>k (mo (some a))
 | gS (some a) l c=>br a fun a=>uP l fun l=>uP c fun c=>k (gS (some a) l c)
 | .agg ⟨l⟩=>pa l fun l=>k (.agg ⟨l⟩)
 | .tuple ⟨l⟩=>pa l fun l=>k (.tuple ⟨l⟩)
 |v=>k v
noncomputable def oU {β:Type}:List Value→(List Value→β)→β
 |[],k=>k []
 |a::l,k=>bp a fun a=>oU l fun l=>k (a::l)
inductive TD where
 |bool|int (k:IntKind)|string|slice (e:TypeId)|array (len:Nat) (e:TypeId)|struct (fs:List (TypeId×Nat))|other
def TD.of:TypeDesc→TD
 | .bool=>.bool
 | .int k=>.int k
 | .string=>.string
 | .slice e=>.slice e
 | .array n e=>.array n e
 | .struct fs=>.struct (fs.toList.map fun f=>(f.type,f.offset))
 |_=>.other
structure Env where
 und:TypeId→Option TD
 inf:TypeId→Option (Nat×Nat×Value)
 fn:FuncId→Option Func
 ext:FuncId→List Value→Option Value
 dT:Nat
 pure:FuncId→Bool
 cmp:TypeId→Option (List (TypeId×Nat))
inductive Blk where
 |row (c:List Value) (e:TypeId)
 |loop (ready:Bool) (pending:Option Code) (t:Tr Value) (nt:Nat) (ps:List Tmp) (assign body:Code) (d:Nat)
 |dfr
 |ro (c:List Value)
def Blk.cells:Blk→Option (List Value)
 | .row c _=>some c
 | .ro c=>some c
 |_=>none
abbrev Hp:=Tr (Option Blk)
noncomputable abbrev Hp.at (h:Hp) (b:Nat):Option Blk:=Tr.get none h b
noncomputable abbrev nth (t:Tr Value) (i:Nat):Value:=Tr.get undef t i
def gro (b:Nat):Bool:=AD (b%3) 1
structure St where
 t:Tr Value
 h:Hp
 n:Nat
 w:List Nat
inductive Ex where
 |normal|exit (id:Nat)|ret
def qF:Value→Bool
 | jx _=>true| gZ _ _=>true| .float _ _=>true| .complex _ _ _=>true| jy _=>true
 | mo none=>true| gS none _ _=>true| .nilFunc=>true| .nilIface=>true| .map none=>true| .chan none=>true
 |_=>false
def closed:Value→Bool
 | .agg ⟨l⟩=>l.all qF
 | .tuple ⟨l⟩=>l.all qF
 |v=>qF v
noncomputable def ev (t:Tr Value):Operand→Value
 | .tmp i=>nth t i
 | .const v=>(match closed v with|true=>v|false=>undef)
 | .global g=>mo (some ⟨3*g,0,none⟩)
 | .func f=>.func (.func f) #[] #[]
noncomputable def md (h:Hp)(a:Addr)(n:Nat):Option (List Value):=
 match h.at a.block with
 |some x=>(match x.cells with|some c=>(match Ag (a.off+n) (gP c)&&a.spot.isNone with|true=>some ((c.drop a.off).take n)|false=>none)|none=>none)
 |none=>none
def zu (c:List Value)(off:Nat)(vs:List Value):List Value:=c.take off++(vs++c.drop (off+gP vs))
def ones:List Value→Bool
 |[]=>true
 | .agg _::_=>false
 | .tuple _::_=>false
 |_::r=>ones r
noncomputable def qN (h:Hp)(a:Addr)(vs:List Value):Option Hp:=
 match h.at a.block with
 |some (.row c e)=>(match Ag (a.off+gP vs) (gP c)&&(a.spot.isNone&&ones vs) with|true=>pa (zu c a.off vs) fun c=>h.set a.block (some (.row c e)) some|false=>none)
 |_=>none
def isAgg (E:Env)(t:TypeId):Option Bool:=
 match E.und t with
 |some (.struct _)|some (.array _ _)=>some true
 |some _=>some false
 |none=>none
def zn:Value→List Value
 | .agg cs=>cs.toList
 |v=>[v]
noncomputable def oN (E:Env)(t:TypeId)(h:Hp)(a:Addr):Option Value:=
 match isAgg E t,E.inf t with
 |some true,some (sz,_,_)=>(md h a sz).map fun cs=>.agg cs.toArray
 |some false,_=>match md h a 1 with|some [v]=>some v|_=>none
 |_,_=>none
inductive R where
 |val (v:Value) (h:Hp) (n:Nat) (w:List Nat)
 |enter (f:FuncId) (args:List Value)
 |round (l:Nat) (args:List Value)
noncomputable def wB (h:Hp)(size n:Nat):Value→Option (List Value)
 | gS (some a) _ _=>if n*size=0 then some [] else md h a (n*size)
 | gS none _ _=>some []
 | jy s=>some ((s.data.toList.take n).map fun b=>gZ .u8 b.toNat)
 |_=>none
def lenOf?:Value→Option Nat
 | gS _ n _=>some n
 | jy s=>some (gP s.data.toList)
 |_=>none
noncomputable def zhv (h:Hp)(b cells:Nat)(e:TypeId):Bool:=match h.at b with|some (.row c e')=>AD (gP c) cells&&AD e' e|_=>false
noncomputable def zbg (h:Hp)(n:Nat)(e:TypeId)(cs:List Value)(need cells sz:Nat)(base:Option Addr):Option R:=
 match base with
 |none=>h.set (3*n+1) (some (.row cs e)) fun h=>some (.val (gS (some ⟨3*n+1,0,none⟩) need need) h (n+1) [])
 |some a=>
  match gro a.block with
  |true=>
   match AD a.off 0&&(a.spot.isNone&&(zhv h a.block cells e&&(ones cs&&AD (gP cs) (need*sz)))) with
   |true=>h.set a.block none fun h=>h.set (3*n+1) (some (.row cs e)) fun h=>some (.val (gS (some ⟨3*n+1,0,none⟩) need need) h (n+1) [a.block])
   |false=>none
  |false=>h.set (3*n+1) (some (.row cs e)) fun h=>some (.val (gS (some ⟨3*n+1,0,none⟩) need need) h (n+1) [])
noncomputable def tq (h:Hp)(n size need:Nat)(base:Option Addr)(sLen sCap:Nat)(new:List Value):Option R:=
 match base,new with
 |_,[]=>some (.val (gS base need sCap) h n [])
 |some a,new=>(match qN h (a.add (sLen*size)) new with|some h=>some (.val (gS base need sCap) h n [a.block])|none=>none)
 |none,_=>none
noncomputable def qI (E:Env)(h:Hp)(n:Nat)(sT:TypeId)(s x:Value):Option R:=
 match E.und sT with
 |some (.slice e)=>
  match E.inf e,s,lenOf? x with
  |some (size,bytes,z),gS base sLen sCap,some m=>
   match wB h size m x with
   |some new=>
    match Ag ((sLen+m)*bytes) 1099511627776&&(AD (gP (zn z)) size&&Ag 1 size&&Ag 1 bytes) with
    |true=>
     match Ag (sLen+m) sCap with
     |true=>tq h n size (sLen+m) base sLen sCap new
     |false=>
      match wB h size sLen s with
      |some old=>pa (old++new) fun cs=>zbg h n e cs (sLen+m) (sCap*size) size base
      |none=>none
    |false=>none
   |none=>none
  |_,_,_=>none
 |_=>none
noncomputable def zbx (E:Env)(h:Hp)(n:Nat)(dT:TypeId)(d x:Value):Option R:=
 match E.und dT with
 |some (.slice e)=>
  match E.inf e,d,lenOf? x with
  |some (size,_,_),gS base dLen _,some m=>
   match wB h size (FA m dLen) x,base with
   |some [],_=>some (.val (goInt (FA m dLen)) h n [])
   |some cs,some a=>(match qN h a cs with|some h=>some (.val (goInt (FA m dLen)) h n [a.block])|none=>none)
   |_,_=>none
  |_,_,_=>none
 |_=>none
def x1:Int→Int→Bool
 | .ofNat a,.ofNat b=>AD a b
 | .negSucc a,.negSucc b=>AD a b
 |_,_=>false
def x3:Int→Int→Bool
 | .ofNat a,.ofNat b=>Ag a b
 | .negSucc a,.negSucc b=>Ag b a
 | .negSucc _,.ofNat _=>true
 | .ofNat _,.negSucc _=>false
def x2 (a b:Int):Bool:= !x3 b a
def zge (op:BinOp)(k:IntKind)(x y:Int):Option Value:=
 let a:=CL k.bits x
 let b:=CL k.bits y
 match op with
 | .and=>some (gZ k (k.wrap (a&&& b).toNat))
 | .or=>some (gZ k (k.wrap (a|||b).toNat))
 | .xor=>some (gZ k (k.wrap (a^^^b).toNat))
 | .andNot=>some (gZ k (k.wrap (a&&& ~~~b).toNat))
 |_=>none
def intE (op:BinOp)(k:IntKind)(a b:Int):Option Value:=
 match op with
 | .add=>some (gZ k (k.wrap (a+b)))
 | .sub=>some (gZ k (k.wrap (a-b)))
 | .mul=>some (gZ k (k.wrap (a*b)))
 | .quo=>if b=0 then none else some (gZ k (k.wrap (a.tdiv b)))
 | .rem=>if b=0 then none else some (gZ k (a.tmod b))
 | .and=>zge .and k a b
 | .or=>zge .or k a b
 | .xor=>zge .xor k a b
 | .andNot=>zge .andNot k a b
 | .shl=>none
 | .shr=>none
 | .eql=>some (jx (x1 a b))
 | .neq=>some (jx (!(x1 a b)))
 | .lss=>some (jx (x2 a b))
 | .leq=>some (jx (x3 a b))
 | .gtr=>some (jx (x2 b a))
 | .geq=>some (jx (x3 b a))
def shE (op:BinOp)(k:IntKind)(a b:Int):Option Value:=
 match op with
 | .shl=>if b<0 then none else some (gZ k (k.wrap (a*2^(min b.toNat k.bits))))
 | .shr=>if b<0 then none else some (gZ k (a.fdiv (2^(min b.toNat k.bits))))
 |_=>none
def ikEq:IntKind→IntKind→Bool
 | .i8,.i8=>true| .i16,.i16=>true| .i32,.i32=>true| .i64,.i64=>true| .u8,.u8=>true| .u16,.u16=>true| .u32,.u32=>true| .u64,.u64=>true|_,_=>false
def isSh:BinOp→Bool| .shl=>true| .shr=>true|_=>false
def strE (op:BinOp)(a b:List UInt8):Option Value:=
 match op with
 | .add=>if (gP a)+gP b≤1099511627776 then some (jy ⟨⟨a++b⟩⟩) else none
 | .eql=>some (jx (a==b))
 | .neq=>some (jx (!(a==b)))
 |_=>none
def zq0 (E:Env)(op:BinOp)(t:TypeId)(a b:Bool):Option Value:=
 match op,E.und t with
 | .eql,some .bool=>some (jx (a==b))
 | .neq,some .bool=>some (jx (!(a==b)))
 |_,_=>none
def nilE (E:Env)(op:BinOp)(t:TypeId)(a:Bool):Option Value:=
 match op,E.und t with
 | .eql,some (.slice _)=>some (jx a)
 | .neq,some (.slice _)=>some (jx (!a))
 |_,_=>none
def za2 (E:Env)(t:TypeId)(cs:List Value)(off:Nat):Option Value:=
 match isAgg E t,E.inf t with
 |some true,some (sz,_,_)=>some (.agg ((cs.drop off).take sz).toArray)
 |some false,_=>cs[off]?
 |_,_=>none
def eqV (E:Env)(t:TypeId):Value→Value→Option Bool
 | gZ k x,gZ k' y=>(match E.und t,ikEq k k' with|some (.int _),true=>some (x1 x y)|_,_=>none)
 | jy x,jy y=>(match E.und t with|some .string=>some (x.data.toList==y.data.toList)|_=>none)
 | jx x,jx y=>(match E.und t with|some .bool=>some (x==y)|_=>none)
 |_,_=>none
def eqFs (E:Env)(a b:List Value):List (TypeId×Nat)→Option Bool
 |[]=>some true
 |(t,off)::r=>
  match za2 E t a off,za2 E t b off with
  |some x,some y=>(match eqV E t x y with|some true=>eqFs E a b r|some false=>some false|none=>none)
  |_,_=>none
def aggE (E:Env)(op:BinOp)(t:TypeId)(a b:List Value):Option Value:=
 match op,E.cmp t with
 | .eql,some fs=>(match eqFs E a b fs with|some v=>some (jx v)|none=>none)
 | .neq,some fs=>(match eqFs E a b fs with|some v=>some (jx (!v))|none=>none)
 |_,_=>none
def binE (E:Env)(op:BinOp)(t:TypeId)(x y:Value):Option Value:=
 match x,y with
 | gZ k a,gZ k' b=>(match isSh op with|true=>shE op k a b|false=>(match ikEq k k' with|true=>intE op k a b|false=>none))
 | jy a,jy b=>strE op a.data.toList b.data.toList
 | jx a,jx b=>zq0 E op t a b
 | gS a _ _,gS none _ _=>nilE E op t a.isNone
 | .agg a,.agg b=>aggE E op t a.toList b.toList
 |_,_=>none
def unE (op:UnOp)(x:Value):Option Value:=
 match op,x with
 | .neg,gZ k n=>some (gZ k (k.wrap (0-n)))
 | .not,jx b=>some (.bool !b)
 |_,_=>none
def ze9 (E:Env)(t:TypeId)(x:Value)(f:Nat):Option Value:=
 match E.und t,x with
 |some (.struct fs),.agg cs=>match fs[f]? with|some fl=>za2 E fl.1 cs.toList fl.2|none=>none
 |_,_=>none
def qw (E:Env)(t:TypeId)(x:Value)(f:Nat):Option Value:=
 match E.und t,x with
 |some (.struct fs),mo (some a)=>
  match fs[f]? with
  |some fl=>match E.inf fl.1 with|some (sz,_,_)=>if sz=0 then none else some (mo (some (a.add fl.2)))|none=>none
  |none=>none
 |_,_=>none
def yV (E:Env)(t:TypeId)(x i:Value):Option Value:=
 match i with
 | gZ _ j=>
  match E.und t,x with
  |some (.array len e),mo (some a)=>match E.inf e with|some (sz,_,_)=>if 0≤j∧j<len then some (mo (some (a.add (j.toNat*sz)))) else none|none=>none
  |some (.slice e),gS (some a) len _=>match E.inf e with|some (sz,_,_)=>if 0≤j∧j<len then some (mo (some (a.add (j.toNat*sz)))) else none|none=>none
  |_,_=>none
 |_=>none
def iK (E:Env)(t:TypeId)(x i:Value):Option Value:=
 match i with
 | gZ _ j=>
  match E.und t,x with
  |some (.array len e),.agg cs=>match E.inf e with|some (sz,_,_)=>if 0≤j∧j<len then za2 E e cs.toList (j.toNat*sz) else none|none=>none
  |some .string,jy s=>if 0≤j then match s.data.toList[j.toNat]? with|some b=>some (gZ .u8 b.toNat)|none=>none else none
  |_,_=>none
 |_=>none
def bnd (x:Option Value)(d y:Nat):Option Nat:=
 match x with
 |none=>some d
 |some (gZ _ i)=>if 0≤i∧i≤y then some i.toNat else none
 |_=>none
def offA (cap i sz:Nat)(a:Addr):Addr:=match AD cap i with|true=>a|false=>a.add (i*sz)
def fB (E:Env)(t:TypeId)(x lo hi mx:Value):Option Value:=
 match E.und t,x,lo,hi,mx with
 |some (.slice e),gS (some a) _ cap,gZ _ (.ofNat i),gZ _ (.ofNat j),gZ _ (.ofNat m)=>
  match E.inf e with
  |some (sz,_,_)=>(match Ag i j&&(Ag j m&&(Ag m cap&&(!gro a.block&&a.spot.isNone))) with|true=>some (gS (some (offA m i sz a)) (j-i) (m-i))|false=>none)
  |none=>none
 |_,_,_,_,_=>none
def endA (n:Nat)(a:Addr):Addr:=⟨a.block,a.off+n,some a.off⟩
def xc (E:Env)(t:TypeId)(x:Value)(lo hi:Option Value):Option Value:=
 match E.und t,x with
 |some .string,jy s=>
  match bnd hi (gP s.data.toList) (gP s.data.toList) with
  |some j=>(match bnd lo 0 j with|some i=>some (jy ⟨⟨(s.data.toList.drop i).take (j-i)⟩⟩)|none=>none)
  |none=>none
 |some (.slice e),gS a len cap=>
  match E.inf e,bnd hi len cap with
  |some (sz,_,_),some j=>
   match bnd lo 0 j with
   |some i=>
    match a with
    |none=>some (gS none (j-i) (cap-i))
    |some a=>(match a.spot,gro a.block&&(Ag 1 i&&Ag cap i) with|some _,_=>none|none,true=>(match AD cap i&&AD j i with|true=>some (gS (some (endA (i*sz) a)) 0 0)|false=>none)|none,false=>some (gS (some (offA cap i sz a)) (j-i) (cap-i)))
   |none=>none
  |_,_=>none
 |some (.array len e),mo (some a)=>
  match E.inf e,bnd hi len len with
  |some (sz,_,_),some j=>(match bnd lo 0 j,gro a.block||a.spot.isSome with|some i,false=>some (gS (some (offA len i sz a)) (j-i) (len-i))|_,_=>none)
  |_,_=>none
 |_,_=>none
def me (c:List Value)(place:Nat→Option (Nat×Nat)):List (Nat×Value)→Option (List Value)
 |[]=>some c
 |(i,v)::r=>
  match place i with
  |none=>none
  |some (off,size)=>if (gP (zn v))≠size||off+size>gP c then none else me (zu c off (zn v)) place r
def zgd (E:Env)(t:TypeId)(ps:List (Nat×Value)):Option Value:=
 match E.und t,E.inf t with
 |some (.struct fs),some (_,_,z)=>
  (me (zn z) (fun i=>match fs[i]? with|some f=>(match E.inf f.1 with|some (sz,_,_)=>some (f.2,sz)|none=>none)|none=>none) ps).map fun l=>.agg l.toArray
 |some (.array _ e),some (_,_,z)=>
  match E.inf e with
  |some (sz,_,_)=>(me (zn z) (fun i=>some (i*sz,sz)) ps).map fun l=>.agg l.toArray
  |none=>none
 |_,_=>none
def rep:Nat→List Value→List Value
 |0,_=>[]
 |n+1,z=>z++rep n z
def kP (x:Value)(i:Nat):Option Value:=
 match x with
 | .tuple vs=>vs.toList[i]?
 |_=>none
def lenE (E:Env)(t:TypeId)(x:Value):Option Value:=
 match E.und t,x with
 |some .string,jy s=>some (goInt (gP s.data.toList))
 |some (.array n _),_=>some (goInt n)
 |some (.slice _),gS _ n _=>some (goInt n)
 |_,_=>none
def kZ (E:Env)(t d:TypeId)(x:Value):Option Value:=
 match E.und t,E.und d,x with
 |some _,some (.int k),gZ _ n=>some (gZ k (k.wrap n))
 |some _,some .string,jy s=>some (jy s)
 |_,_,_=>none
def pi:List Value→Option (List UInt8)
 |[]=>some []
 | gZ .u8 m::r=>match pi r with|some l=>some (Bd m.toNat::l)|none=>none
 |_=>none
def minE:List Value→Option Value
 |[gZ k x,gZ _ y]=>some (gZ k (if y<x then y else x))
 |_=>none
def maxE:List Value→Option Value
 |[gZ k x,gZ _ y]=>some (gZ k (if x<y then y else x))
 |_=>none
def zpw (c a b:Value):Option Value:=match c with| jx true=>some a| jx false=>some b|_=>none
def psE (ρ:Operand→Value)(l:Array (Nat×Operand)):List (Nat×Value):=l.toList.map fun p=>(p.1,ρ p.2)
def iz (x:Value):Option Value:=match x with| mo (some a)=>some (mo (some a))|_=>none
def lnE (E:Env)(ts:List TypeId)(args:List Value):Option Value:=
 match args,ts with
 |[x],[t]=>lenE E t x
 |_,_=>none
def aH (E:Env)(b:Builtin)(ts:List TypeId)(args:List Value):Option Value:=
 match b with
 | .len=>lnE E ts args
 | .min=>minE args
 | .max=>maxE args
 |_=>none
def yy (E:Env)(o:Op)(ρ:Operand→Value):Option Value:=
 match o with
 | .move x=>some (ρ x)
 | .assign x=>some (ρ x)
 | .pick c a b=>zpw (ρ c) (ρ a) (ρ b)
 | .build t l=>zgd E t (psE ρ l)
 | .nilCheck x=>iz (ρ x)
 | .binOp op t x y _=>binE E op t (ρ x) (ρ y)
 | .unOp op _ x=>unE op (ρ x)
 | .convert t d x=>kZ E t d (ρ x)
 | .makeFunc (.func f) a b=>some (.func (.func f) (a.map ρ) (b.map ρ))
 | .slice t x lo hi none=>xc E t (ρ x) (lo.map ρ) (hi.map ρ)
 | .slice t x (some lo) (some hi) (some m)=>fB E t (ρ x) (ρ lo) (ρ hi) (ρ m)
 | .fieldAddr s x f=>qw E s (ρ x) f
 | .field t x f=>ze9 E t (ρ x) f
 | .indexAddr t x i=>yV E t (ρ x) (ρ i)
 | .index t x i=>iK E t (ρ x) (ρ i)
 | .extract t i=>kP (ρ t) i
 | .call c=>(match c.callee with| .builtin b=>aH E b c.argTypes.toList (c.args.toList.map ρ)|_=>none)
 |_=>none
structure Mk where
 c:List Value
 e:TypeId
 g:Bool
 s:Option (Nat×Nat)
def sR (E:Env)(t:TypeId)(len:Nat)(l:List (Nat×Value)):Option Mk:=
 match E.und t with
 |some (.slice e)=>
  match E.inf e with
  |some (sz,_,z)=>
   match Ag (len*sz) 16777216&&AD (gP (zn z)) sz with
   |true=>(match me (rep len (zn z)) (fun j=>some (j*sz,sz)) l with|some cs=>some ⟨cs,e,false,some (len,len)⟩|none=>none)
   |false=>none
  |none=>none
 |_=>none
def tn (E:Env)(t:TypeId)(l c:Value):Option Mk:=
 match E.und t,l,c with
 |some (.slice e),gZ _ (.ofNat len),gZ _ (.ofNat cap)=>
  match E.inf e with
  |some (sz,by_,z)=>
   match Ag len cap&&(Ag (cap*by_) 1099511627776&&(Ag cap 1099511627776&&AD (gP (zn z)) sz)) with
   |true=>some ⟨rep cap (zn z),e,false,some (len,cap)⟩
   |false=>none
  |none=>none
 |_,_,_=>none
def vI (E:Env)(t d:TypeId)(x:Value):Option Mk:=
 match x,E.und t,E.und d with
 | jy bs,some _,some (.slice e)=>
  match E.und e,E.inf e with
  |some (.int .u8),some (1,_,_)=>some ⟨bs.data.toList.map fun b=>gZ .u8 b.toNat,e,true,some (gP bs.data.toList,gP bs.data.toList)⟩
  |_,_=>none
 |_,_,_=>none
def mkE (E:Env)(o:Op)(ρ:Operand→Value):Option Mk:=
 match o with
 | .alloc e=>(match E.inf e with|some (_,_,z)=>some ⟨zn z,e,false,none⟩|none=>none)
 | .box e x=>some ⟨zn (ρ x),e,false,none⟩
 | .buildSlice t len l=>sR E t len (psE ρ l)
 | .makeSlice t l c=>tn E t (ρ l) (ρ c)
 | .convert t d x=>vI E t d (ρ x)
 |_=>none
def Mk.name (m:Mk)(n:Nat):Nat:=match m.g with|true=>3*n+1|false=>3*n+2
def Mk.val (m:Mk)(n:Nat):Value:=match m.s with|none=>mo (some ⟨m.name n,0,none⟩)|some (l,c)=>gS (some ⟨m.name n,0,none⟩) l c
noncomputable def mC (E:Env)(t:TypeId)(a x:Value)(h:Hp)(n:Nat):Option R:=
 match a,E.inf t with
 | mo (some ad),some (sz,_,_)=>
  match AD (gP (zn x)) sz with
  |true=>(match qN h ad (zn x) with|some h=>some (.val undef h n [ad.block])|none=>none)
  |false=>none
 |_,_=>none
def ze1 (E:Env)(f:Value)(args:List Value)(h:Hp)(n:Nat):Option R:=
 match f with
 | .func (.func g) first cap=>(match E.ext g (first.toList++(args++cap.toList)) with|some v=>some (.val v h n [])|none=>some (.enter g (first.toList++(args++cap.toList))))
 | .func (.yield l) first _=>some (.round l (first.toList++args))
 |_=>none
noncomputable def appE (E:Env)(ts:List TypeId)(args:List Value)(h:Hp)(n:Nat):Option R:=
 match args,ts with
 |[s,x],[sT,xT]=>(match E.und xT with|some (.int _)=>none|none=>none|_=>qI E h n sT s x)
 |_,_=>none
noncomputable def cpyE (E:Env)(ts:List TypeId)(args:List Value)(h:Hp)(n:Nat):Option R:=
 match args,ts with
 |[s,x],sT::_=>zbx E h n sT s x
 |_,_=>none
noncomputable def qH (E:Env)(c:Callee)(ts:List TypeId)(ρ:Operand→Value)(args:List Value)(h:Hp)(n:Nat):Option R:=
 match c with
 | .builtin .append=>appE E ts args h n
 | .builtin .copy=>cpyE E ts args h n
 | .value f=>ze1 E (ρ f) args h n
 |_=>none
noncomputable def effE (E:Env)(o:Op)(ρ:Operand→Value)(h:Hp)(n:Nat):Option R:=
 match o with
 | .store t a x=>mC E t (ρ a) (ρ x) h n
 | .call c=>qH E c.callee c.argTypes.toList ρ (c.args.toList.map ρ) h n
 |_=>none
noncomputable def zcr (E:Env)(t d:TypeId)(x:Value)(h:Hp):Option Value:=
 match x,E.und t,E.und d with
 | gS a len c,some (.slice e),some .string=>
  match E.und e,wB h 1 len (gS a len c) with
  |some (.int .u8),some cs=>(match pi cs with|some l=>some (jy ⟨⟨l⟩⟩)|none=>none)
  |_,_=>none
 |_,_,_=>none
def cls:Op→Nat
 | .load _ _=>1
 | .alloc _=>2| .box _ _=>2| .buildSlice _ _ _=>2| .makeSlice _ _ _=>2
 | .store _ _ _=>3
 | .convert _ _ _=>4
 | .call c=>(match c.callee with| .builtin .append=>3| .builtin .copy=>3| .builtin _=>0|_=>3)
 |_=>0
noncomputable def uA (E:Env)(o:Op)(ρ:Operand→Value)(h:Hp):Option (Value×Nat):=
 match o with
 | .load t a=>(match ρ a with| mo (some ad)=>(match oN E t h ad with|some v=>some (v,ad.block)|none=>none)|_=>none)
 |_=>none
structure Cal where
 call:FuncId→List Value→Hp→Nat→Option (Value×Hp×Nat×List Nat)
 yl:Nat→List Value→Hp→Nat→Option (Value×Hp×Nat×List Nat)
structure Ctx where
 E:Env
 C:Cal
 L:Nat
 round:Option Nat
 n0:Nat
 nt:Nat
def addW (n0:Nat):List Nat→List Nat→List Nat
 |[],w=>w
 |b::r,w=>(match Ag (3*n0) b with|true=>addW n0 r w|false=>addW n0 r (b::w))
noncomputable def putK {β:Type}(nt:Nat)(t:Tr Value)(d:Option Tmp)(v:Value)(k:Tr Value→Option β):Option β:=
 match d with
 |some i=>(match Ag nt i with|true=>none|false=>t.set i v k)
 |none=>k t
noncomputable def done {β:Type}(X:Ctx)(s:St)(d:Option Tmp)(v:Value)(h:Hp)(n:Nat)(w:List Nat)(k:St→Option β):Option β:=
 bp v fun v=>putK X.nt s.t d v fun t=>uP n fun n=>k {t,h,n,w:=addW X.n0 w s.w}
noncomputable def mkK {β:Type}(X:Ctx)(s:St)(d:Option Tmp)(m:Mk)(k:St→Option β):Option β:=
 pa m.c fun c=>s.h.set (m.name s.n) (some (.row c m.e)) fun h=>done X s d (m.val s.n) h (s.n+1) [] k
noncomputable def effK {β:Type}(X:Ctx)(s:St)(o:Oper)(k:St→List Nat→Option β):Option β:=
 match effE X.E o.op (ev s.t) s.h s.n with
 |some (.val v h n w)=>done X s o.dst v h n w fun s=>k s w
 |some (.enter f args)=>(match X.C.call f args s.h s.n with|some (v,h,n,w)=>done X s o.dst v h n w fun s=>k s w|none=>none)
 |some (.round l args)=>(match X.C.yl l args s.h s.n with|some (v,h,n,w)=>done X s o.dst v h n w fun s=>k s w|none=>none)
 |none=>none
noncomputable def opK {β:Type}(X:Ctx)(s:St)(o:Oper)(k:St→Option β):Option β:=
 match cls o.op with
 |0=>(match yy X.E o.op (ev s.t) with|some v=>done X s o.dst v s.h s.n [] k|none=>none)
 |1=>(match uA X.E o.op (ev s.t) s.h with|some (v,_)=>done X s o.dst v s.h s.n [] k|none=>none)
 |2=>(match mkE X.E o.op (ev s.t) with|some m=>mkK X s o.dst m k|none=>none)
 |3=>effK X s o fun s _=>k s
 |_=>
  match mkE X.E o.op (ev s.t) with
  |some m=>mkK X s o.dst m k
  |none=>
   match o.op with
   | .convert t d x=>(match zcr X.E t d (ev s.t x) s.h with|some v=>done X s o.dst v s.h s.n [] k|none=>(match yy X.E o.op (ev s.t) with|some v=>done X s o.dst v s.h s.n [] k|none=>none))
   |_=>none
noncomputable def vf (ops:List Oper)(t:Tr Value)(o:Oper):Bool:=
 match o.guard with
 |none=>true
 |some (j,b)=>
  match ops[j]? with
  |some g=>(match g.dst with|some d=>(match nth t d with| jx c=>(match b,c with|true,true=>true|false,false=>true|_,_=>false)|_=>false)|none=>false)
  |none=>false
noncomputable def tM (X:Ctx)(ops:List Oper)(l:List Oper):St→Option St:=
 List.rec (motive:=fun _=>St→Option St) (fun s=>some s)
  (fun o _ ih s=>D1 (motive:=fun _=>Option St) (done X s o.dst undef s.h s.n [] ih) (opK X s o ih) (vf ops s.t o)) l
structure Dr where
 s:St
 al:List (Nat×Nat)
 ld:List (Nat×Nat)
 ef:List (Nat×Hp×List Nat)
def memN (b:Nat):List Nat→Bool
 |[]=>false
 |c::r=>(match AD b c with|true=>true|false=>memN b r)
def ya (m:Nat)(W:List Nat):List (Nat×Nat)→Bool
 |[]=>true
 |(i,b)::r=>(match m.testBit i|| !memN b W with|true=>ya m W r|false=>false)
def qS (u b:Nat):List (Nat×Hp×List Nat)→Bool
 |[]=>true
 |(e,_,W)::r=>(match Eh e u|| !memN b W with|true=>qS u b r|false=>false)
def vQ (m:Nat):List (Nat×Hp×List Nat)→Nat→Hp→Nat×Hp
 |[],u,h=>(u,h)
 |(e,g,_)::r,u,h=>(match m.testBit e with|true=>vQ m r u h|false=>vQ m r e g)
def qn (m b:Nat):List (Nat×Nat)→Bool
 |[]=>true
 |(j,c)::r=>(match m.testBit j|| !Nat.beq b c with|true=>qn m b r|false=>false)
def xJ (m:Nat):List (Nat×Nat)→Bool
 |[]=>true
 |(j,_)::r=>(match m.testBit j with|true=>xJ m r|false=>false)
def gu (m:Nat):List (Nat×Hp×List Nat)→Bool
 |[]=>true
 |(j,_)::r=>(match m.testBit j with|true=>gu m r|false=>false)
noncomputable def zfi {β:Type}(X:Ctx)(i m:Nat)(o:Oper)(d:Dr)(k:Dr→Option β):Option β:=
 match cls o.op with
 |1=>
  match vQ m d.ef i d.s.h with
  |(u,h)=>
   match uA X.E o.op (ev d.s.t) h with
   |some (v,b)=>(match qS u b d.ef&&qn m b d.al with|true=>done X d.s o.dst v d.s.h d.s.n [] fun s=>k {d with s,ld:=(i,b)::d.ld}|false=>none)
   |none=>none
 |2=>
  match mkE X.E o.op (ev d.s.t) with
  |some mk=>mkK X d.s o.dst mk fun s=>k {d with s,al:=(i,mk.name d.s.n)::d.al}
  |none=>none
 |3=>
  match gu m d.ef&&xJ m d.al with
  |true=>effK X d.s o fun s W=>(match ya m W d.ld&&Ag d.s.n s.n with|true=>k {d with s,ef:=(i,d.s.h,W)::d.ef}|false=>none)
  |false=>none
 |_=>(match yy X.E o.op (ev d.s.t) with|some v=>done X d.s o.dst v d.s.h d.s.n [] fun s=>k {d with s}|none=>none)
def xA:List Oper→List Nat→List Nat
 |[],acc=>acc
 |o::r,acc=>xA r (acc++[o.after.toList.foldl (fun s e=>match Bt .any e with|true=>s|||2^e.on|||acc.getD e.on 0|false=>s) 0])
noncomputable def wp (X:Ctx)(ops:List Oper):List Oper→List Nat→Nat→Dr→Option St
 |[],_,_,d=>some d.s
 |o::r,m::ms,i,d=>
  match vf ops d.s.t o with
  |true=>zfi X i m o d fun d=>wp X ops r ms (i+1) d
  |false=>done X d.s o.dst undef d.s.h d.s.n [] fun s=>wp X ops r ms (i+1) {d with s}
 |_,_,_,_=>none
noncomputable def fZ (f:St→Option (Ex×St))(n:Nat):St→Option (Ex×St):=
 Fh (motive:=fun _=>St→Option (Ex×St)) (fun _=>none) (fun _ ih s=>match f s with|some (.normal,s')=>ih s'|r=>r) n
def zib:Bool→Option Code→Option Ex
 |true,none=>some .normal
 |false,some .ret=>some .ret
 |false,some (.exit id)=>some (.exit id)
 |_,_=>none
noncomputable def qQ (X:Ctx)(g:Value)(ps:List Tmp)(assign body:Code)(s:St):Option (Ex×St):=
 match g,X.round with
 | .func (.func gf) first cap,none=>
  uP (s.n+1) fun l=>uP (l+1) fun n2=>
  s.h.set (3*s.n+2) (some .dfr) fun h=>h.set (3*l+2) (some (.loop true none s.t X.nt ps assign body (3*s.n+2))) fun h=>
  match X.C.call gf (first.toList++([.func (.yield (3*l+2)) #[] #[]]++cap.toList)) h n2 with
  |some (_,h3,n3,w3)=>
   match h3.at (3*l+2),h3.at (3*s.n+2) with
   |some (.loop r p _ _ _ _ _ _),some .dfr=>
    match zib r p with
    |some x=>h3.set (3*l+2) none fun h4=>h4.set (3*s.n+2) none fun h4=>some (x,{t:=s.t,h:=h4,n:=n3,w:=addW X.n0 w3 s.w})
    |none=>none
   |_,_=>none
  |none=>none
 |_,_=>none
noncomputable def vG (X:Ctx)(c:Code):St→Option (Ex×St):=
 Code.rec (motive:=fun _=>St→Option (Ex×St))
  (fun s=>some (.normal,s))
  (fun _ ops draw s=>match draw with
   |false=>(match tM X ops.toList ops.toList s with|some s=>some (.normal,s)|none=>none)
   |true=>(match wp X ops.toList ops.toList (xA ops.toList []) 0 ⟨s,[],[],[]⟩ with|some s=>some (.normal,s)|none=>none))
  (fun _ _ ia ib s=>match ia s with|some (.normal,s')=>ib s'|r=>r)
  (fun c _ _ ia ib s=>match ev s.t c with| jx true=>ia s| jx false=>ib s|_=>none)
  (fun id _ ib s=>match ib s with|some (.exit j,s')=>(match AD j id with|true=>some (.normal,s')|false=>some (.exit j,s'))|r=>r)
  (fun _ ib s=>fZ ib X.L s)
  (fun f ps assign body _ _ s=>qQ X (ev s.t f) ps.toList assign body s)
  (fun id s=>some (.exit id,s))
  (fun _ ib s=>ib s)
  (fun _ s=>some (.normal,s))
  (fun _ _=>none)
  (fun s=>some (.ret,s))
  (fun _ _=>none) c
noncomputable def resE (E:Env)(s:St):List ResultVar→Option (List Value)
 |[]=>some []
 | .tmp t::r=>(match resE E s r with|some l=>some (nth s.t t::l)|none=>none)
 | .cell a t::r=>
  match nth s.t a with
  | mo (some ad)=>(match oN E t s.h ad,resE E s r with|some v,some l=>some (v::l)|_,_=>none)
  |_=>none
noncomputable def oq {β:Type}:List Value→Nat→Tr Value→(Tr Value→Option β)→Option β
 |[],_,t,k=>k t
 |v::r,i,t,k=>t.set i v fun t=>oq r (i+1) t k
def flat:Value→Bool
 | jx _=>true| gZ _ _=>true| jy _=>true|_=>false
def uQ:List Value→Bool
 |[]=>true
 |v::r=>(match flat v with|true=>uQ r|false=>false)
noncomputable def fnE (E:Env)(C:Cal)(L:Nat)(f:FuncId)(args:List Value)(h:Hp)(n:Nat):Option (Value×Hp×Nat×List Nat):=
 match E.fn f with
 |some fn=>
  match fn.body with
  |some body=>
   match Ag (gP args) fn.ntmps with
   |true=>
    oq args 0 (Tr.mk undef E.dT) fun t=>
    match vG {E,C,L,round:=none,n0:=n,nt:=fn.ntmps} body {t,h,n,w:=[]} with
    |some (.exit _,_)=>none
    |some (_,s)=>
     match resE E s fn.results.toList with
     |some vs=>
      oU vs fun vs=>
      match E.pure f&&uQ vs,s.w with
      |true,[]=>some (match vs with|[v]=>v|vs=>.tuple ⟨vs⟩,h,n,[])
      |_,w=>some (match vs with|[v]=>v|vs=>.tuple ⟨vs⟩,s.h,s.n,w)
     |none=>none
    |none=>none
   |false=>none
  |none=>none
 |none=>none
noncomputable def vv (E:Env)(C:Cal)(L:Nat)(l:Nat)(args:List Value)(h:Hp)(n:Nat):Option (Value×Hp×Nat×List Nat):=
 match h.at l with
 |some (.loop true none t0 nt0 ps0 assign0 body0 _)=>
  match AD (gP args) (gP ps0) with
  |true=>
   setPs nt0 ps0 args t0 fun t1=>
   match vG {E,C,L,round:=some l,n0:=n,nt:=nt0} assign0 {t:=t1,h,n,w:=[]} with
   |some (.normal,s1)=>
    match s1.h.at l with
    |some (.loop true none t nt ps assign body d)=>
     s1.h.set l (some (.loop false none t nt ps assign body d)) fun h1=>
     match vG {E,C,L,round:=some l,n0:=n,nt:=nt0} body0 {s1 with h:=h1,w:=l::s1.w} with
     |some (x,s2)=>
      match s2.h.at l with
      |some (.loop _ _ t nt ps assign body d)=>
       match x with
       | .normal=>s2.h.set l (some (.loop true none t nt ps assign body d)) fun h2=>some (jx true,h2,s2.n,l::s2.w)
       | .ret=>s2.h.set l (some (.loop false (some .ret) t nt ps assign body d)) fun h2=>some (jx false,h2,s2.n,l::s2.w)
       | .exit id=>s2.h.set l (some (.loop false (some (.exit id)) t nt ps assign body d)) fun h2=>some (jx false,h2,s2.n,l::s2.w)
      |_=>none
     |none=>none
    |_=>none
   |_=>none
  |false=>none
 |_=>none
where
 setPs {β:Type} (nt:Nat):List Tmp→List Value→Tr Value→(Tr Value→Option β)→Option β
  |p::ps,v::vs,t,k=>(match Ag nt p with|true=>none|false=>t.set p v fun t=>setPs nt ps vs t k)
  |_,_,t,k=>k t
noncomputable def calN (E:Env)(L:Nat)(k:Nat):Cal:=
 Fh (motive:=fun _=>Cal) ⟨fun _ _ _ _=>none,fun _ _ _ _=>none⟩ (fun _ C=>⟨fun f a h n=>fnE E C L f a h n,fun l a h n=>vv E C L l a h n⟩) k
theorem Tr.get_lf (d:α)(i:Nat):Tr.get d .lf i=d:=rfl
theorem Tr.get_zero (d:α)(l:Tr α)(v:α)(r:Tr α):Tr.get d (.nd l v r) 0=v:=rfl
theorem Tr.get_succ (d:α)(l:Tr α)(v:α)(r:Tr α)(j:Nat):
  Tr.get d (.nd l v r) (j+1)=if j%2=0 then Tr.get d l (j/2) else Tr.get d r (j/2):=by
 show D1 (motive:=fun _=>α) (Tr.get d r (j/2)) (Tr.get d l (j/2)) (AD (j%2) 0)=_;by_cases h:j%2=0
 ·rw [eS h,h];rfl
 have:j%2=1:=zo;rw [eP h,this];rfl
theorem Tr.get_new (d v:α):∀(f i:Nat),i≤f→∀j,Tr.get d (Tr.new d v f i) j=if j=i then v else d:=by
 intro f;induction f with
 |zero=>
  intro i b j;have:i=0:=zo;subst this;show Tr.get d (.nd .lf v .lf) j=_;cases j with
  |zero=>rfl
  |succ j=>rw [Tr.get_succ];simp [Tr.get_lf]
 |succ f ih=>
  intro i b j;cases i with
  |zero=>
   show Tr.get d (.nd .lf v .lf) j=_;cases j with
   |zero=>rfl
   |succ j=>rw [Tr.get_succ];simp [Tr.get_lf]
  |succ i=>
   have c:Tr.new d v (f+1) (i+1)=if i%2=0 then .nd (Tr.new d v f (i/2)) d .lf else .nd .lf d (Tr.new d v f (i/2)):=by
    show D1 (motive:=fun _=>Tr α) (.nd .lf d (Tr.new d v f (i/2))) (.nd (Tr.new d v f (i/2)) d .lf) (AD (i%2) 0)=_;by_cases h:i%2=0
    ·rw [eS h,h];rfl
    have:i%2=1:=zo;rw [eP h,this];rfl
   rw [c];have a:=ih (i/2) zo;by_cases h:i%2=0
   ·rw [eS h];cases j with
    |zero=>rw [Tr.get_zero];simp
    |succ j=>
     rw [Tr.get_succ,a,Tr.get_lf];by_cases hj:j%2=0
     ·by_cases e:j=i
      ·subst e;simp [hj]
      have:¬j/2=i/2:=zo;simp [hj,e,this]
     have:¬j=i:=by rintro rfl;exact hj h
     simp [hj,this]
   rw [eP h];cases j with
   |zero=>rw [Tr.get_zero];simp
   |succ j=>
    rw [Tr.get_succ,a,Tr.get_lf];by_cases hj:j%2=0
    ·have:¬j=i:=by rintro rfl;exact h hj
     simp [hj,this]
    by_cases e:j=i
    ·subst e;simp [hj]
    have:¬j/2=i/2:=zo;simp [hj,e,this]
section
variable [Dflt α]
noncomputable def Tr.put (t:Tr α):Nat→α→Tr α:=
 Tr.rec (motive:=fun _=>Nat→α→Tr α) (fun i v=>Tr.new Dflt.d v i i)
  (fun l x r il ir i v=>Fh (motive:=fun _=>Tr α) (.nd l v r)
   (fun j _=>D1 (motive:=fun _=>Tr α) (.nd l x (ir (j/2) v)) (.nd (il (j/2) v) x r) (AD (j%2) 0)) i) t
theorem Tr.put_zero (l:Tr α)(x:α)(r:Tr α)(v:α):Tr.put (.nd l x r) 0 v=.nd l v r:=rfl
theorem Tr.put_succ (l:Tr α)(x:α)(r:Tr α)(j:Nat)(v:α):
  Tr.put (.nd l x r) (j+1) v=if j%2=0 then .nd (Tr.put l (j/2) v) x r else .nd l x (Tr.put r (j/2) v):=by
 show D1 (motive:=fun _=>Tr α) (.nd l x (Tr.put r (j/2) v)) (.nd (Tr.put l (j/2) v) x r) (AD (j%2) 0)=_;by_cases h:j%2=0
 ·rw [eS h,h];rfl
 have:j%2=1:=zo;rw [eP h,this];rfl
theorem Tr.set_eq:∀(t:Tr α) (i:Nat) (v:α) (k:Tr α→Option β),Tr.set t i v k=k (Tr.put t i v):=by
 intro t;induction t with
 |lf=>intro i v k;rfl
 |nd l x r il ir=>
  intro i v k;cases i with
  |zero=>rfl
  |succ j=>
   rw [Tr.put_succ];show D1 (motive:=fun _=>Option β) (Tr.set r (j/2) v fun r=>k (.nd l x r)) (Tr.set l (j/2) v fun l=>k (.nd l x r)) (AD (j%2) 0)=_;by_cases h:j%2=0
   ·rw [eS h,h];exact il _ _ _
   have:j%2=1:=zo;rw [eP h,this];exact ir _ _ _
theorem Tr.get_put (d:α)(a:d=Dflt.d:=by rfl):∀(t:Tr α) (i:Nat) (v:α) (j:Nat),Tr.get d (Tr.put t i v) j=if j=i then v else Tr.get d t j:=by
 intro t;induction t with
 |lf=>
  intro i v j;subst a;exact Tr.get_new _ v i i (Nat.le_refl _) j
 |nd l x rr il ir=>
  intro i v j;cases i with
  |zero=>
   rw [Tr.put_zero];cases j with
   |zero=>rfl
   |succ j=>rw [Tr.get_succ,Tr.get_succ];simp
  |succ i=>
   rw [Tr.put_succ];by_cases hi:i%2=0
   ·rw [if_pos hi];cases j with
    |zero=>simp [Tr.get_zero]
    |succ j=>
     rw [Tr.get_succ,Tr.get_succ,il];by_cases hj:j%2=0
     ·simp only [hj,if_true];by_cases hji:j=i
      ·subst hji;simp
      have:¬j/2=i/2:=zo;simp [this,hji]
     have:¬j=i:=by rintro rfl;exact hj hi
     simp [hj,this]
   rw [if_neg hi];cases j with
   |zero=>simp [Tr.get_zero]
   |succ j=>
    rw [Tr.get_succ,Tr.get_succ,ir];by_cases hj:j%2=0
    ·have:¬j=i:=by rintro rfl;exact hi hj
     simp [hj,this]
    simp only [hj,if_false];by_cases hji:j=i
    ·subst hji;simp
    have:¬j/2=i/2:=zo;simp [this,hji]
theorem Tr.set_some (d:α)(t:Tr α)(i:Nat)(v:α)(k:Tr α→Option β)(r:β)(h:Tr.set t i v k=some r)(a:d=Dflt.d:=by rfl):
  ∃t',k t'=some r∧∀j,Tr.get d t' j=if j=i then v else Tr.get d t j:=
 ⟨Tr.put t i v,(Tr.set_eq t i v k).symm.trans h,Tr.get_put d a t i v⟩
end
theorem Tr.get_mk (d:α):∀(n i:Nat),Tr.get d (Tr.mk d n) i=d:=by
 intro n;induction n with
 |zero=>intro i;rfl
 |succ n ih=>
  intro i;show Tr.get d (.nd (Tr.mk d n) d (Tr.mk d n)) i=d;cases i with
  |zero=>rfl
  |succ i=>rw [Tr.get_succ];split<;>exact ih _
theorem xm (n:Nat)(k:Nat→β):uP n k=k n:=by cases n<;>rfl
theorem ze3 (n:Int)(k:Int→β):ze4 n k=k n:=by cases n<;>simp [ze4,xm]
theorem xZ (l:List α)(k:List α→β):pa l k=k l:=by
 induction l generalizing k with
 |nil=>rfl
 |cons a l ih=>show pa l (fun l=>k (a::l))=_;rw [ih]
theorem ze5 (a:Addr)(k:Addr→β):br a k=k a:=by
 obtain ⟨b,o,s⟩:=a;cases s<;>simp [br,xm]
theorem rJ (v:Value)(k:Value→β):bp v k=k v:=by
 unfold bp;split<;>first|rfl|simp [ze3,xZ,ze5,xm]|skip
 rename_i b;cases b<;>rfl
theorem mT (l:List Value)(k:List Value→β):oU l k=k l:=by
 induction l generalizing k with
 |nil=>rfl
 |cons a l ih=>simp [oU,rJ,ih]
structure Ren where
 b:Nat→Nat
 x:Nat→Nat
 ex:∀n,gro n=false→x n=0
 gl:∀g,b (3*g)=g
def Ren.addr (ρ:Ren)(a:Addr):Addr:=⟨ρ.b a.block,a.off,a.spot⟩
def Ren.adrS (ρ:Ren)(a:Addr)(l c:Nat):Addr:=
 match l,c,a.spot,gro a.block with
 |0,0,some s,true=>if ρ.x a.block=0 then ⟨ρ.b a.block,s,none⟩ else ⟨ρ.b a.block,a.off,none⟩
 |_,_,_,_=>ρ.addr a
theorem Ren.adrS_eq (ρ:Ren){a:Addr}{c:Nat}(h:a.spot=none∨l≠0∨c≠0):ρ.adrS a l c=ρ.addr a:=by
 unfold Ren.adrS;split
 ·rename_i s hs _;rcases h with h|h|h
  ·rw [h] at hs;cases hs
  ·exact eN rfl h
  exact eN rfl h
 rfl
theorem Ren.adrS_len (ρ:Ren)(a:Addr){b c:Nat}(h:l≤b)(h':b≤c):ρ.adrS a b c=ρ.adrS a l c:=by
 by_cases hc:c=0
 ·have d:b=l:=zo;rw [d]
 rw [ρ.adrS_eq (.inr (.inr hc)),ρ.adrS_eq (.inr (.inr hc))]
theorem Ren.adrS_old (ρ:Ren){a:Addr}(h:gro a.block=false)(l c:Nat):ρ.adrS a l c=ρ.addr a:=by
 unfold Ren.adrS;split
 ·rename_i hg;rw [h] at hg;cases hg
 rfl
@[simp] theorem Ren.adrS_none (ρ : Ren)(b off l c : Nat) : ρ.adrS ⟨b, off, none⟩ l c = ⟨ρ.b b, off, none⟩ := ρ.adrS_eq (.inl rfl)
def Ren.fn (ρ:Ren):Fn→Fn
 | .yield l=>.yield (ρ.b l)
 |f=>f
mutual
def conc (ρ:Ren):Value→Value
 | mo (some a)=>mo (some (ρ.addr a))
 | gS (some a) l c=>gS (some (ρ.adrS a l c)) l (c+ρ.x a.block)
 | .func f a b=>.func (ρ.fn f) (nw ρ a) (nw ρ b)
 | .agg cs=>.agg (nw ρ cs)
 | .tuple cs=>.tuple (nw ρ cs)
 |v=>v
def nw (ρ:Ren):Array Value→Array Value
 |⟨l⟩=>⟨mg ρ l⟩
def mg (ρ:Ren):List Value→List Value
 |[]=>[]
 |v::r=>conc ρ v::mg ρ r
end
theorem zja (ρ:Ren)(l:List Value):mg ρ l=l.map (conc ρ):=by
 induction l with
 |nil=>simp [mg]
 |cons a l ih=>simp [mg,ih]
theorem jb (ρ:Ren)(l:Array Value):nw ρ l=l.map (conc ρ):=by
 obtain ⟨l⟩:=l;simp [nw,zja]
section
variable (ρ:Ren)
@[simp] theorem uV (b : Bool) : conc ρ (jx b) = jx b := by simp [conc]
@[simp] theorem ja (k : IntKind)(n : Int) : conc ρ (gZ k n) = gZ k n := by simp [conc]
@[simp] theorem vn (s : ByteArray) : conc ρ (jy s) = jy s := by simp [conc]
@[simp] theorem zi9 (a : Addr) : conc ρ (mo (some a)) = mo (some (ρ.addr a)) := by simp [conc]
@[simp] theorem conc_nil : conc ρ (mo none) = mo none := by simp [conc]
@[simp] theorem z5 (a : Addr)(l c : Nat) : conc ρ (gS (some a) l c) = gS (some (ρ.adrS a l c)) l (c + ρ.x a.block) := by simp [conc]
@[simp] theorem rN (l c : Nat) : conc ρ (gS none l c) = gS none l c := by simp [conc]
@[simp] theorem nr (f : Fn)(a b : Array Value) : conc ρ (.func f a b) = .func (ρ.fn f) (a.map (conc ρ)) (b.map (conc ρ)) := by simp [conc, jb]
@[simp] theorem uE (cs : Array Value) : conc ρ (.agg cs) = .agg (cs.map (conc ρ)) := by simp [conc, jb]
@[simp] theorem la (cs : Array Value) : conc ρ (.tuple cs) = .tuple (cs.map (conc ρ)) := by simp [conc, jb]
@[simp] theorem zby : conc ρ undef = undef := by simp [undef]
theorem qE (v:Value):(conc ρ v).cells=v.cells.map (conc ρ):=by
 match v with
 | mo none=>simp [BI]
 | mo (some _)=>simp [BI]
 | gS none _ _=>simp [BI]
 | gS (some _) _ _=>simp [BI]
 | .func _ _ _=>simp [BI]
 | .agg _=>simp [BI]
 | .tuple _=>simp [BI]
 | jx _=>simp [BI]
 | gZ _ _=>simp [BI]
 | .float _ _=>simp [BI,conc]
 | .complex _ _ _=>simp [BI,conc]
 | jy _=>simp [BI]
 | .map _=>simp [BI,conc]
 | .chan _=>simp [BI,conc]
 | .nilFunc=>simp [BI,conc]
 | .nilIface=>simp [BI,conc]
 | .iface _ _=>simp [BI,conc]
theorem yS (v:Value):zn v=v.cells.toList:=by cases v<;>rfl
theorem yz (v:Value):zn (conc ρ v)=(zn v).map (conc ρ):=by
 rw [yS,yS,qE];simp
end
theorem pg {ρ:Ren}(h:qF v=true):conc ρ v=v:=by
 unfold qF at h;split at h<;>first|(simp [conc];done)|cases h
theorem yA {ρ:Ren}(h:closed v=true):conc ρ v=v:=by
 have a:∀l:List Value,l.all qF=true→l.map (conc ρ)=l:=fun l h=>by
  rw [BP] at h
  conv=>rhs;rw [←Eb l]
  exact A2 fun v b=>pg (h v b)
 unfold closed at h;split at h
 ·rename_i l;rw [uE];simp [a l h]
 ·rename_i l;rw [la];simp [a l h]
 exact pg h
def Agr (m:Nat)(ρ ρ':Ren):Prop:=∀b,b<m→ρ'.b b=ρ.b b∧ρ'.x b=ρ.x b
theorem Agr.refl (m:Nat)(ρ:Ren):Agr m ρ ρ:=fun _ _=>⟨rfl,rfl⟩
theorem Agr.trans {a b c:Ren}(h:Agr m a b)(h':Agr m' b c)(hm:m≤m'):Agr m a c:=
 fun k d=>⟨(h' k zo).1.trans (h k d).1,(h' k zo).2.trans (h k d).2⟩
theorem Agr.mono {a b:Ren}(h:Agr m a b)(hm:m'≤m):Agr m' a b:=fun k c=>h k zo
def Nb (m:Nat)(v:Value):Prop:=∀ρ ρ':Ren,Agr m ρ ρ'→conc ρ' v=conc ρ v
theorem Nb.mono (h:Nb m v)(hm:m≤m'):Nb m' v:=fun ρ b a=>h ρ b (a.mono hm)
theorem Nb.closed (h:closed v=true):Nb m v:=fun _ _ _=>by rw [yA h,yA h]
theorem Nb.undef:Nb m undef:=fun _ _ _=>by simp
theorem Nb.int {k:IntKind}{n:Int}:Nb m (gZ k n):=fun _ _ _=>by simp
theorem Nb.bool {b:Bool}:Nb m (jx b):=fun _ _ _=>by simp
theorem Nb.string {b:ByteArray}:Nb m (jy b):=fun _ _ _=>by simp
theorem Nb.map {l:List Value}(h:∀v∈l,Nb m v){ρ a:Ren}(b:Agr m ρ a):l.map (conc a)=l.map (conc ρ):=
 A2 fun v c=>h v c ρ a b
section
variable {ρ:Ren}
structure EnvOk (E:Env)(P:Program):Prop where
 und:∀t d,E.und t=some d→∃D,P.underlying t=some D∧TD.of D=d
 fld:∀t fs,E.und t=some (.struct fs)→∀f∈fs,∃r,E.inf f.1=some r
 cmp:∀t fs,E.cmp t=some fs→∃F:Array Field,P.underlying t=some (.struct F)∧fs=F.toList.map (fun f=>(f.type,f.offset))∧(∀f∈F.toList,f.name≠ "_")∧P.stoodInHeld t=false∧P.eqGuardType P.depth t=false
 inf:∀t s b z,E.inf t=some (s,b,z)→(∃i,P.info? t=some i∧i.size=s∧i.bytes=b∧i.zero=some z)∧closed z=true
section
variable {E:Env}{P:Program}(hE:EnvOk E P)
include hE
theorem EnvOk.string (h:E.und t=some .string):P.underlying t=some .string:=by
 obtain ⟨D,a,c⟩:=hE.und _ _ h;cases D<;>simp [TD.of] at c<;>exact a
theorem EnvOk.bool (h:E.und t=some .bool):P.underlying t=some .bool:=by
 obtain ⟨D,a,c⟩:=hE.und _ _ h;cases D<;>simp [TD.of] at c<;>exact a
theorem EnvOk.int {k:IntKind}(h:E.und t=some (.int k)):P.underlying t=some (.int k):=by
 obtain ⟨D,c,a⟩:=hE.und _ _ h;cases D<;>simp [TD.of] at a;subst a;exact c
theorem EnvOk.slice (h:E.und t=some (.slice e)):P.underlying t=some (.slice e):=by
 obtain ⟨D,c,a⟩:=hE.und _ _ h;cases D<;>simp [TD.of] at a;subst a;exact c
theorem EnvOk.array (h:E.und t=some (.array n e)):P.underlying t=some (.array n e):=by
 obtain ⟨D,c,a⟩:=hE.und _ _ h;cases D<;>simp [TD.of] at a;obtain ⟨rfl,rfl⟩:=a;exact c
theorem EnvOk.struct {a:List (TypeId×Nat)}(h:E.und t=some (.struct a)):
  ∃F:Array Field,P.underlying t=some (.struct F)∧a=F.toList.map fun f=>(f.type,f.offset):=by
 obtain ⟨D,g,c⟩:=hE.und _ _ h;cases D<;>simp [TD.of] at c;exact ⟨_,g,c.symm⟩
theorem EnvOk.some_ {d:TD}(h:E.und t=some d):∃D,P.underlying t=some D:=by
 obtain ⟨D,a,_⟩:=hE.und _ _ h;exact ⟨D,a⟩
theorem z9 {s:Nat}(h:E.inf t=some (s,b,z))(w:World):(sizeOf t).run P w=.ok s w:=by
 obtain ⟨⟨i,a,c,_⟩,_⟩:=hE.inf _ _ _ _ h;simp [sizeOf,typeInfo,a,c]
theorem ry {s:Nat}(h:E.inf t=some (s,b,z))(w:World):(zeroValue t).run P w=.ok z w:=by
 obtain ⟨⟨i,a,_,_,c⟩,_⟩:=hE.inf _ _ _ _ h;simp [zeroValue,typeInfo,a,c]
theorem ti {b:Bool}(h:isAgg E t=some b)(w:World):(HA t).run P w=.ok b w:=by
 unfold isAgg at h;split at h
 ·obtain ⟨F,a,_⟩:=hE.struct (by assumption);simp at h;subst h;simp [HA,run_underlying a]
 ·have a:=hE.array (by assumption);simp at h;subst h;simp [HA,run_underlying a]
 ·rename_i d hs ha hd;obtain ⟨D,a,c⟩:=hE.und _ _ hd;simp at h;subst h;cases D<;>simp [TD.of] at c<;>first
   |(simp [HA,run_underlying a];done)
   |(exact (hs _ (by rw [c])).elim)
   |(subst c;exact (hs _ rfl).elim)
   |(exact (ha _ _ rfl).elim)
   |(subst c;exact (ha _ _ rfl).elim)
 cases h
end
theorem gG (a b:Int):x1 a b=(a==b):=by
 cases a<;>cases b<;>simp only [x1]<;>(rw [EN];simp [Nat.beq_eq,HB];try omega)
theorem gF (a b:Int):x3 a b=decide (a≤b):=by
 cases a<;>cases b<;>simp only [x3]<;>(rw [EN];simp [Nat.ble_eq,HB];try omega)
theorem zaf (a b:Int):x2 a b=decide (a<b):=by
 rw [x2,gF,EN];simp
theorem eqB {P:Program}(c:P.underlying t=some .bool)(w:World)(d:Nat)(a b:Bool):(E3 (d+1) t (jx a) (jx b)).run P w=.ok (a==b) w:=by
 simp [E3,run_underlying c]
theorem eqN {P:Program}(f:P.underlying t=some (.slice e))(w:World)(d:Nat)(a:Option Addr)(n c n' c':Nat):(E3 (d+1) t (gS a n c) (gS none n' c')).run P w=.ok a.isNone w:=by
 cases a<;>simp [E3,run_underlying f]
section
variable {E:Env}{P:Program}(hE:EnvOk E P)(w:World)
include hE
theorem pz (ρ:Ren)(h:za2 E t cs off=some v):
  (part t (cs.map (conc ρ)).toArray off).run P w=.ok (conc ρ v) w:=by
 unfold za2 at h;split at h
 ·rename_i ha hi;simp at h;subst h;simp [part,ti hE ha,z9 hE hi,List.extract_eq_take_drop,Dw,Ev]
 ·rename_i ha;simp [part,ti hE ha,h]
 cases h
theorem zfa {x y:Value}{b:Bool}(ρ:Ren)(d:Nat)(h:eqV E t x y=some b):(E3 (d+1) t (conc ρ x) (conc ρ y)).run P w=.ok b w:=by
 unfold eqV at h;split at h
 ·rename_i k x k' y;split at h
  ·rename_i ki hu hk;have a:k=k':=by cases k<;>cases k'<;>simp [ikEq] at hk<;>rfl
   subst a;injection h with h
   subst h;rw [ja,ja,run_equalIn_int w d t k ki x y (hE.int hu),gG]
  cases h
 ·split at h
  ·rename_i hu;injection h with h
   subst h;rw [vn,vn,run_equalIn_string w d t _ _ (hE.string hu),DX,DX]
  cases h
 ·split at h
  ·rename_i hu;injection h with h
   subst h;rw [uV,uV];exact eqB (hE.bool hu) w d _ _
  cases h
 cases h
theorem zir {a b:List Value}(ρ:Ren)(d:Nat):∀(F:List Field) (v:Bool),(∀f∈F,f.name≠ "_")→eqFs E a b (F.map fun f=>(f.type,f.offset))=some v→(Ha (d+1) (a.map (conc ρ)).toArray (b.map (conc ρ)).toArray F).run P w=.ok v w:=by
 intro F;induction F with
 |nil=>intro v _ h;injection h with h;subst h;simp [Ha]
 |cons f F ih=>
  intro v hn h;simp only [C9] at h;unfold eqFs at h;split at h
  ·rename_i x y hx hy;have h1:=pz hE w ρ hx;have h2:=pz hE w ρ hy;simp only [Ha,eS (hn f gN),AX,h1,h2,Ax];split at h
   ·rename_i he;rw [zfa hE w ρ d he];simp only [Ax,Dx,A1,if_false];exact ih v (fun g hg=>hn g (by simp [hg])) h
   ·rename_i he;rw [zfa hE w ρ d he];injection h with h
    subst h;simp
   cases h
  cases h
theorem zn9 {f:BinOp}{a b:Value}(ρ:Ren)(h:binE E f t a b=some v):
  ((do eqGuard f t x y (conc ρ a) (conc ρ b);binOp f t (conc ρ a) (conc ρ b)):Sem Value).run P w=.ok (conc ρ v) w:=by
 unfold binE at h;split at h
 ·rename_i k m k' m';have l:(eqGuard f t x y (conc ρ (gZ k m)) (conc ρ (gZ k' m'))).run P w=.ok () w:=by
   simp [eqGuard];try (split<;>simp)
  simp only [AX,l,Ax];split at h
  ·rename_i hs;cases f<;>simp [isSh] at hs<;>simp [shE] at h<;>obtain ⟨A,rfl⟩:=h<;>simp [binOp,Op.shift,Int.not_lt.2 A]
  rename_i hs;split at h
  ·rename_i hk;have L:k=k':=by cases k<;>cases k'<;>simp [ikEq] at hk<;>rfl
   subst L;cases f<;>simp [isSh] at hs<;>simp [intE,zge] at h<;>first
    |(subst h;simp [binOp,Hb,Op.intBits,Op.intCmp,gG,zaf,gF];done)
    |(subst h;simp [binOp,Hb,Op.intBits,Op.intCmp,gG,zaf,gF];rw [EN];simp;done)
    |(obtain ⟨A,rfl⟩:=h;simp [binOp,Op.intDiv,A];done)
  cases h
 ·rename_i s s';have l:(eqGuard f t x y (conc ρ (jy s)) (conc ρ (jy s'))).run P w=.ok () w:=by
   simp [eqGuard];try (split<;>simp)
  simp only [AX,l,Ax];cases f<;>simp [strE] at h
  ·obtain ⟨A,rfl⟩:=h;have D:¬((s.size+s'.size:Nat):Int)>IntKind.i64.max:=by
    simp [IntKind.max,IntKind.signed,IntKind.bits];omega
   have e:s++s'=⟨⟨s.data.toList++s'.data.toList⟩⟩:=by
    apply ByteArray.ext;rw [ByteArray.data_append];apply CR;simp
   simp only [binOp,vn,Hc];rw [eP D,e];simp
  ·subst h;simp [binOp,Hc,DX]
  subst h;simp [binOp,Hc,DX]
 ·rename_i s s';have l:(eqGuard f t x y (conc ρ (jx s)) (conc ρ (jx s'))).run P w=.ok () w:=by
   simp [eqGuard];try (split<;>simp)
  simp only [AX,l,Ax];unfold zq0 at h;split at h<;>simp at h<;>subst h<;>(have G:=hE.bool (by assumption);simp only [uV,binOp];simp [Op.equal,Op.maxDepth,eqB G w 9999])
 ·rename_i s n c n' c';have l:(eqGuard f t x y (conc ρ (gS s n c)) (conc ρ (gS none n' c'))).run P w=.ok () w:=by
   cases s<;>simp [eqGuard]<;>try (split<;>simp)
  simp only [AX,l,Ax];unfold nilE at h;split at h<;>simp at h<;>subst h<;>(have G:=hE.slice (by assumption);cases s<;>simp only [z5,rN,binOp]<;>simp [Op.equal,Op.maxDepth,eqN G w 9999])
 ·rename_i a b;unfold aggE at h;have C:∀g v,E.cmp t=some g→eqFs E a.toList b.toList g=some v→(eqGuard f t x y (conc ρ (.agg a)) (conc ρ (.agg b))).run P w=.ok () w∧(E3 10000 t (conc ρ (.agg a)) (conc ρ (.agg b))).run P w=.ok v w:=fun g v p q=>by
   obtain ⟨F,J,rfl,M,N,K⟩:=hE.cmp _ _ p;rw [uE,uE];refine ⟨run_eqGuard_agg w f t x y _ _ K,?_⟩;have B:P.fieldsOf t=F:=by simp [Program.fieldsOf,J]
   have:=run_equalIn_struct w 9999 t (a.map (conc ρ)) (b.map (conc ρ)) (by rw [B];exact J) N;rw [B] at this;rw [this];have D:=zir hE w ρ 9998 F.toList v M q;have I:∀z:Array Value,z.map (conc ρ)=(z.toList.map (conc ρ)).toArray:=fun z=>by apply CR;simp
   rw [I a,I b];exact D
  split at h
  ·rename_i g p;split at h
   ·rename_i v q;injection h with h
    subst h;obtain ⟨H,u⟩:=C g v p q;simp only [AX,H,Ax,uV];rw [uE,uE] at u ⊢;rw [run_eql_struct,u];rfl
   cases h
  ·rename_i g p;split at h
   ·rename_i v q;injection h with h
    subst h;obtain ⟨H,u⟩:=C g v p q;simp only [AX,H,Ax,uV];rw [uE,uE] at u ⊢;rw [run_neq_struct,u];rfl
   cases h
  cases h
 cases h
omit hE in
theorem zow {c:UnOp}{a:Value}(ρ:Ren)(h:unE c a=some v):(Op.unary c (conc ρ a)).run P w=.ok (conc ρ v) w:=by
 unfold unE at h;split at h<;>simp at h<;>subst h<;>simp [Op.unary,Hb]
theorem zi8 {d:TypeId}{a:Value}(ρ:Ren)(h:kZ E t d a=some v):(convert t d (conc ρ a)).run P w=.ok (conc ρ v) w:=by
 unfold kZ at h;split at h
 ·rename_i ht hd;obtain ⟨D,c⟩:=hE.some_ ht;have f:=hE.int hd;simp at h;subst h;simp [convert,run_underlying c,run_underlying f,Conv.intToInt]
 ·rename_i ht hd;obtain ⟨D,c⟩:=hE.some_ ht;have f:=hE.string hd;simp at h;subst h;simp [convert,run_underlying c,run_underlying f]
 cases h
omit hE in
theorem mapA (ρ:Ren)(cs:Array Value):(cs.toList.map (conc ρ)).toArray=cs.map (conc ρ):=by
 obtain ⟨l⟩:=cs;simp
theorem ze8 {a:Value}{f:Nat}(ρ:Ren)(h:ze9 E t a f=some v):(Instr.field t (conc ρ a) f).run P w=.ok (conc ρ v) w:=by
 unfold ze9 at h;split at h
 ·rename_i fs cs hu;obtain ⟨F,l,rfl⟩:=hE.struct hu;split at h
  ·rename_i fl hfl;simp at hfl;obtain ⟨m,c,rfl⟩:=hfl;have g:=pz hE w ρ h;rw [mapA] at g;simp [Instr.field,run_underlying l,c,asAgg];exact g
  cases h
 cases h
theorem kM {a:Value}{f:Nat}(ρ:Ren)(h:qw E t a f=some v):(Instr.fieldAt t (conc ρ a) f).run P w=.ok (conc ρ v) w:=by
 unfold qw at h;split at h
 ·rename_i fs ad hu;obtain ⟨F,g,rfl⟩:=hE.struct hu;split at h
  ·rename_i fl hfl;simp at hfl;obtain ⟨l,c,rfl⟩:=hfl;split at h
   ·rename_i sz _ _ hi;split at h
    ·cases h
    rename_i hsz;simp at h;subst h;simp [Instr.fieldAt,run_underlying g,c,DL,fieldPlace,z9 hE hi,hsz,Ren.addr,Cu];split<;>rfl
   cases h
  cases h
 cases h
theorem kE {a i:Value}(ρ:Ren)(h:yV E t a i=some v):(Gi t (conc ρ a) (conc ρ i)).run P w=.ok (conc ρ v) w:=by
 unfold yV at h;split at h
 ·split at h
  ·rename_i k j len e ad hu;have f:=hE.array hu;split at h
   ·rename_i sz _ _ hi;split at h
    ·rename_i hj;simp at h;subst h;simp [Gi,asIntOf,run_underlying f,DL,hj.1,hj.2,z9 hE hi,Ren.addr,Cu];split<;>rfl
    cases h
   cases h
  ·rename_i k j e ad len c hu;have f:=hE.slice hu;split at h
   ·rename_i sz _ _ hi;split at h
    ·rename_i hj;simp at h;subst h;rw [z5,ρ.adrS_eq (.inr (.inl zo))];simp [Gi,asIntOf,run_underlying f,hj.1,hj.2,z9 hE hi,Ren.addr,Cu];split<;>rfl
    cases h
   cases h
  cases h
 cases h
theorem zeu {a i:Value}(ρ:Ren)(h:iK E t a i=some v):(He t (conc ρ a) (conc ρ i)).run P w=.ok (conc ρ v) w:=by
 unfold iK at h;split at h
 ·split at h
  ·rename_i k j len e cs hu;have f:=hE.array hu;split at h
   ·rename_i sz _ _ hi;split at h
    ·rename_i hj;have m:=pz hE w ρ h;rw [mapA] at m;simp [He,asIntOf,run_underlying f,hj.1,hj.2,z9 hE hi];exact m
    cases h
   cases h
  ·rename_i k j _ _ s hu;have f:=hE.string hu;split at h
   ·rename_i hj;split at h
    ·rename_i b hb;simp at h;subst h;have l:s[j.toNat]?=some b:=by
      have c:j.toNat<gP s.data.toList:=(nN.1 hb).1;have:=ByteArray.getElem?_lt' s j.toNat (by simpa using c);rw [this];have g:=Lib.data_getElem? s j.toNat (by simpa using c);rw [hb] at g;exact g.symm
     simp [He,asIntOf,run_underlying f,hj,l]
    cases h
   cases h
  cases h
 cases h
omit hE in
theorem eG {a:Value}(ρ:Ren)(h:kP a i=some v):(Instr.extract (conc ρ a) i).run P w=.ok (conc ρ v) w:=by
 unfold kP at h;split at h
 ·simp at h;simp [Instr.extract,h]
 cases h
theorem zm8 {a:Value}(ρ:Ren)(h:lenE E t a=some v):(FC #[t] ty #[conc ρ a]).run P w=.ok (conc ρ v) w:=by
 unfold lenE at h;split at h
 ·rename_i hu;have c:=hE.string hu;simp at h;subst h;simp [FC,run_underlying c,goInt]
 ·rename_i hu;have c:=hE.array hu;simp at h;subst h;simp [FC,run_underlying c,goInt]
 ·rename_i a _ _ hu;have c:=hE.slice hu;simp at h;subst h;cases a<;>simp [FC,run_underlying c,goInt]
 cases h
omit hE in
theorem aJ {y:Nat}{c:BoundsCode}(h:bnd (some v) d y=some r):(DR v y c).run P w=.ok r w:=by
 unfold bnd at h;split at h
 ·rename_i hx;cases hx
 ·rename_i k i hx;injection hx with hx
  subst hx;split at h
  ·rename_i hj;simp at h;subst h;simp [DR,asIntOf,hj.1,hj.2]
  cases h
 cases h
omit hE in
theorem tF {lo hi:Option Value}{b:Bool}(ρ:Ren)(x:Nat)(f:bnd hi len cap=some j)(a:bnd lo 0 j=some i):
  (Fi b len (cap+x) (lo.map (conc ρ)) (hi.map (conc ρ)) none).run P w=.ok (i,j,cap+x) w:=by
 have g:∀v c,hi=some v→(DR (conc ρ v) (cap+x) c).run P w=.ok j w:=by
  rintro v c rfl;have m:bnd (some (conc ρ v)) len (cap+x)=some j:=by
   unfold bnd at f ⊢;split at f<;>simp_all;omega
  exact aJ w m
 have l:∀v c,lo=some v→(DR (conc ρ v) j c).run P w=.ok i w:=by
  rintro v c rfl;have p:bnd (some (conc ρ v)) 0 j=some i:=by
   unfold bnd at a ⊢;split at a<;>simp_all
  exact aJ w p
 unfold Fi;cases hi with
 |none=>
  simp [bnd] at f;subst f;cases lo with
  |none=>simp [bnd] at a;subst a;simp
  |some v=>simp [l v _ rfl]
 |some u=>
  cases lo with
  |none=>simp [bnd] at a;subst a;simp [g u _ rfl]
  |some v=>simp [g u _ rfl,l v _ rfl]
omit hE in
theorem zab (ρ:Ren)(a:Addr)(n:Nat):ρ.addr (a.add n)=(ρ.addr a).add n:=by
 unfold Cu;split<;>rfl
omit hE in
theorem gm (a:Addr)(n:Nat):(a.add n).block=a.block:=by unfold Cu;split<;>rfl
omit hE in
theorem qo (cap i sz:Nat)(a:Addr):(offA cap i sz a).block=a.block:=by
 unfold offA;split
 ·rfl
 exact gm _ _
omit hE in
theorem fS (ρ:Ren)(cap i sz:Nat)(a:Addr):ρ.addr (offA cap i sz a)=if cap=i then ρ.addr a else (ρ.addr a).add (i*sz):=by
 unfold offA;split
 ·rename_i h;rw [eS (Ay h)]
 rename_i h;rw [eP (Dl h),zab]
omit hE in
theorem zat {a:Addr}(c:(gro a.block&&(Ag 1 i&&Ag cap i))=false):
  (if cap+ρ.x a.block=i then some (ρ.addr a) else some ((ρ.addr a).add (i*sz)))=some (ρ.addr (offA cap i sz a))∧
  cap+ρ.x a.block-i=cap-i+ρ.x (offA cap i sz a).block:=by
 rw [qo,fS];cases hgb:gro a.block with
 |false=>
  have p:=ρ.ex _ hgb;rw [p];refine ⟨?_,zo⟩;by_cases h:cap=i<;>simp [h]
 |true=>
  rw [hgb] at c;have f:i=0∨i<cap:=by
   by_cases h0:i=0
   ·exact .inl h0
   right;apply Cw;intro g;have l:Ag 1 i=true:=oo zo;have m:Ag cap i=true:=oo g;rw [l,m] at c;cases c
  rcases f with rfl|f
  ·refine ⟨?_,zo⟩;have e:∀b:Addr,b.add 0=b:=fun b=>by simp [Cu]
   simp [e]
  refine ⟨?_,zo⟩;rw [eP zo,eP zo]
omit hE in
theorem oG (cap i sz b off:Nat):(offA cap i sz ⟨b,off,none⟩).spot=none:=by
 unfold offA;split
 ·rfl
 unfold Cu;split<;>rfl
omit hE in
theorem zis (a:gro b=true):(if i+ρ.x b=i then some (⟨ρ.b b,off,none⟩:Addr) else some ((⟨ρ.b b,off,none⟩:Addr).add (i*sz)))=some (ρ.adrS (endA (i*sz) ⟨b,off,none⟩) 0 0):=by
 unfold endA Ren.adrS;by_cases hx:ρ.x b=0
 ·simp [hx,a]
 simp only [hx,if_false,a];rw [eP zo];unfold Cu;split
 ·rename_i h0;rw [h0];rfl
 rfl
theorem zdh {a:Value}{lo hi:Option Value}(ρ:Ren)(h:xc E t a lo hi=some v):
  (Da t (conc ρ a) (lo.map (conc ρ)) (hi.map (conc ρ)) none).run P w=.ok (conc ρ v) w:=by
 unfold xc at h;split at h
 ·rename_i s hu;have g:=hE.string hu;split at h
  ·rename_i j hj;split at h
   ·rename_i i hi';simp at h;subst h;have f:=tF (P:=P) (b:=false) w ρ 0 hj hi';simp at f;simp [Da,run_underlying g,Fj,f];apply ByteArray.ext;apply CR;rw [G1]
   cases h
  cases h
 ·rename_i e ad len cap hu;have g:=hE.slice hu;split at h
  ·rename_i sz _ _ j hi0 hj;split at h
   ·rename_i i hi';split at h
    ·simp at h;subst h;have f:=tF (P:=P) (b:=true) w ρ 0 hj hi';simp at f;simp [Da,run_underlying g,Fj,f,z9 hE hi0]
    rename_i a;have f:=tF (P:=P) (b:=true) w ρ (ρ.x a.block) hj hi';split at h
    ·cases h
    ·rename_i c hg;split at h
     ·rename_i hc;simp only [AA] at hc;have q:=Ay hc.1;have u:=Ay hc.2;simp at h;subst h;obtain ⟨l,m,p⟩:=a;simp only at c;subst c;simp [Da,run_underlying g,Fj,f,z9 hE hi0];subst q u;exact ⟨zis (by simp only [AA] at hg;exact hg.1),zo,by show _=ρ.x l;omega⟩
     cases h
    rename_i c hg;simp at h;subst h;obtain ⟨l,m,p⟩:=a;simp only at c;subst c;have A:=zat (ρ:=ρ) (sz:=sz) hg;rw [z5,ρ.adrS_none,z5,ρ.adrS_eq (.inl (oG _ _ _ _ _))];simp [Da,run_underlying g,Fj,f,z9 hE hi0];exact A
   cases h
  cases h
 ·rename_i len e a hu;have g:=hE.array hu;split at h
  ·rename_i sz _ _ j hi0 hj;split at h
   ·rename_i i hi' hg;simp at h;subst h;have f:=tF (P:=P) (b:=false) w ρ 0 hj hi';simp at f;simp [Da,run_underlying g,DL,f,z9 hE hi0];simp only [Bool.or_eq_false_iff,Option.isSome_eq_false_iff,Option.isNone_iff_eq_none] at hg;obtain ⟨l,m,p⟩:=a;have c:=hg.2;simp only at c;subst c;rw [ρ.adrS_eq (.inl (oG _ _ _ _ _)),qo,fS];refine ⟨rfl,?_⟩;exact ρ.ex _ hg.1
   cases h
  cases h
 cases h
theorem zau {a lo hi p:Value}(ρ:Ren)(h:fB E t a lo hi p=some v):
  (Da t (conc ρ a) (some (conc ρ lo)) (some (conc ρ hi)) (some (conc ρ p))).run P w=.ok (conc ρ v) w:=by
 unfold fB at h;split at h
 ·rename_i e ad len cap k1 i k2 j k3 m hu;have s:=hE.slice hu;split at h
  ·rename_i sz _ _ hi0;split at h
   ·rename_i hb;simp only [AA,BT] at hb;obtain ⟨c,f,g,q,l⟩:=hb;rename_i hsz;obtain ⟨B,C,A⟩:=ad;have l:A=none:=by simpa using l
    subst l;have c:=tu c;have f:=tu f;have g:=tu g;simp at h;subst h;have u:=ρ.ex _ q;rw [z5,ρ.adrS_none,z5,ρ.adrS_eq (.inl (oG _ _ _ _ _))];simp [Da,run_underlying s,Fj,Fi,DR,asIntOf,u,c,f,g,z9 hE hi0,qo,fS];split<;>rfl
   cases h
  cases h
 cases h
omit hE in
theorem fv:∀(a:List Value) (k:Nat) (cs:List Value) (off:Nat),off+k+gP a≤gP cs→
  (a.zipIdx k).foldl (fun (cs:Array Value) (p:Value×Nat)=>cs.setIfInBounds (off+p.2) p.1) cs.toArray=(zu cs (off+k) a).toArray:=by
 intro a;induction a with
 |nil=>intro k cs off h;simp [zu]
 |cons v a ih=>
  intro k cs off h;simp only [Ao] at h;simp only [List.zipIdx_cons,EP];have e:cs.toArray.setIfInBounds (off+k) v=(cs.set (off+k) v).toArray:=by simp
  rw [e,ih (k+1) _ off (by simp;omega)];congr 1;unfold zu;simp only [Ao];have c:(cs.set (off+k) v).take (off+(k+1))=cs.take (off+k)++[v]:=by
   rw [show off+(k+1)=off+k+1 from zo,Ck (by simp;omega)];rw [Ga eU];simp
  have f:(cs.set (off+k) v).drop (off+(k+1)+gP a)=cs.drop (off+k+(gP a+1)):=by
   rw [Gb zo];congr 1;omega
  rw [c,f];simp
omit hE in
theorem kK (ρ:Ren)(g f:Nat→Option (Nat×Nat))(s:∀i r,g i=some r→f i=some r):
  ∀(a:List (Nat×Value)) (c r:List Value),me c g a=some r→
   HC f (c.map (conc ρ)).toArray (a.map fun p=>(p.1,conc ρ p.2))=some (r.map (conc ρ)).toArray:=by
 intro a;induction a with
 |nil=>intro c r h;simp [me] at h;subst h;simp [HC]
 |cons p a ih=>
  intro c r h;obtain ⟨i,v⟩:=p;unfold me at h;split at h
  ·cases h
  rename_i off size hpl;split at h
  ·cases h
  rename_i hc;have u:(conc ρ v).cells.size=gP (zn v):=by rw [qE,yS];simp
  simp at hc;simp only [C9,HC,s _ _ hpl];rw [eP (by simp [u];omega)];have q:=fv (zn (conc ρ v)) 0 (c.map (conc ρ)) off (by rw [yz];simp;omega);have l:(conc ρ v).cells.zipIdx.foldl (fun cs (x:Value×Nat)=>match x with|(c,j)=>cs.setIfInBounds (off+j) c) (c.map (conc ρ)).toArray=(zu (c.map (conc ρ)) (off+0) (zn (conc ρ v))).toArray:=by
   rw [←q,←Gm];simp [yS]
  rw [l];have m:zu (c.map (conc ρ)) (off+0) (zn (conc ρ v))=(zu c off (zn v)).map (conc ρ):=by
   unfold zu;rw [yz];simp [Dw,Ev]
  rw [m];exact ih _ _ h
omit hE in
theorem zhs {g:α→Sem β}{k:α→β}(F:Array α)(h:∀f∈F,(g f).run P w=.ok (k f) w):(F.mapM g).run P w=.ok (F.map k) w:=by
 obtain ⟨l⟩:=F;rw [Fb];simp only [Sem.run_map];have:(l.mapM g).run P w=.ok (l.map k) w:=by
  induction l with
  |nil=>simp
  |cons a l ih=>
   simp only [FQ,AX];rw [h a gN];simp only [Ax];rw [ih (fun f c=>h f (by simp at c ⊢;exact .inr c))];simp
 simp [this]
theorem zgc {B:List (Nat×Value)}(ρ:Ren)(h:zgd E t B=some v):
  (Hf t (B.map fun p=>(p.1,conc ρ p.2)).toArray).run P w=.ok (conc ρ v) w:=by
 unfold zgd at h;split at h
 ·rename_i fs _ _ z hu hz;obtain ⟨F,m,rfl⟩:=hE.struct hu;have u:=hE.fld _ _ hu;simp at h;obtain ⟨l,q,rfl⟩:=h;have A:(F.mapM fun f=>do pure (f.offset,←sizeOf f.type):Sem (Array (Nat×Nat))).run P w=.ok (F.map fun f=>(f.offset,((E.inf f.type).getD (0,0,undef)).1)) w:=by
   apply zhs;intro f a;obtain ⟨⟨sz,b,z'⟩,c⟩:=u (f.type,f.offset) (by simp;exact ⟨f,a,rfl,rfl⟩);simp [z9 hE c,c]
  have a:=kK ρ _ (fun i=>(F.map fun f=>(f.offset,((E.inf f.type).getD (0,0,undef)).1))[i]?) (by
   intro i r c;split at c
   ·rename_i f hfi;split at c
    ·rename_i sz _ _ hsz;simp at c;subst c;simp at hfi;obtain ⟨C,s,rfl⟩:=hfi;simp [s,hsz]
    cases c
   ·cases c) _ _ _ q
  have g:(zn z).map (conc ρ)=zn z:=by rw [←yz,yA (hE.inf _ _ _ _ hz).2]
  rw [g,yS] at a;simp at a;simp [Hf,ry hE hz,run_underlying m];simp at A;rw [A];simp [a]
 ·rename_i e _ _ z hu hz;have m:=hE.array hu;split at h
  ·rename_i sz _ _ hsz;simp at h;obtain ⟨l,q,rfl⟩:=h;have a:=kK ρ _ (fun i=>some (i*sz,sz)) (fun _ _ h=>h) _ _ _ q;have g:(zn z).map (conc ρ)=zn z:=by rw [←yz,yA (hE.inf _ _ _ _ hz).2]
   rw [g,yS] at a;simp at a;simp [Hf,ry hE hz,run_underlying m,z9 hE hsz,a]
  cases h
 cases h
omit hE in
theorem zm4 {ts:Array TypeId}(ρ:Ren)(h:minE args=some v):(Builtin.min_ ts ty (args.map (conc ρ)).toArray).run P w=.ok (conc ρ v) w:=by
 unfold minE at h;split at h
 ·simp at h;subst h;simp [Builtin.min_,Builtin.min2]
 cases h
omit hE in
theorem zm5 {ts:Array TypeId}(ρ:Ren)(h:maxE args=some v):(Builtin.max_ ts ty (args.map (conc ρ)).toArray).run P w=.ok (conc ρ v) w:=by
 unfold maxE at h;split at h
 ·simp at h;subst h;simp [Builtin.max_,Builtin.max2]
 cases h
theorem rD {g g':Operand→Value}(ρ:Ren)(u:∀x,g' x=conc ρ (g x))(h:yy E o.op g=some v):
  (execOp g' o).run P w=.ok (.value (conc ρ v)) w:=by
 have s:g'=fun x=>conc ρ (g x):=funext u;subst s;unfold yy at h;unfold execOp;split at h<;>rename_i ho<;>simp only [ho]
 ·simp at h;subst h;simp
 ·simp at h;subst h;simp
 ·unfold zpw at h;split at h<;>simp at h<;>subst h<;>simp [*,asBool]
 ·have:=zgc hE w ρ h;simp [psE] at this;simp only [AX];rename_i t l;have e:G2 (fun x=>match x with|(i,x)=>(i,conc ρ (g x))) l=(GH ((fun p=>(p.fst,conc ρ p.snd)) ∘ fun p=>(p.fst,g p.snd)) l.toList).toArray:=by
   obtain ⟨l⟩:=l;simp
  rw [e,this];simp
 ·unfold iz at h;split at h
  ·rename_i hx;simp at h;subst h;simp [hx]
  cases h
 ·rename_i op t x y yt;have:=zn9 hE w (x:=x) (y:=y) ρ h;simp only [AX] at this ⊢;rw [this];simp
 ·have:=zow (P:=P) w ρ h;simp [this]
 ·have:=zi8 hE w ρ h;simp [this]
 ·simp at h;subst h;rename_i f a b;obtain ⟨a⟩:=a;obtain ⟨b⟩:=b;simp [Instr.makeFunc,Ren.fn]
 ·rename_i t x lo hi;have:=zdh hE w ρ h;cases lo<;>cases hi<;>simp at this<;>simp [this]
 ·have:=zau hE w ρ h;simp [this]
 ·have:=kM hE w ρ h;simp [this]
 ·have:=ze8 hE w ρ h;simp [this]
 ·have:=kE hE w ρ h;simp [this]
 ·have:=zeu hE w ρ h;simp [this]
 ·have:=eG (P:=P) w ρ h;simp [this]
 ·rename_i c;split at h
  ·rename_i b hb;obtain ⟨q,args,m⟩:=c;simp at hb;subst hb;unfold aH at h;obtain ⟨args⟩:=args;obtain ⟨m⟩:=m;split at h
   ·unfold lnE at h;split at h
    ·rename_i x t hx ht;simp at hx ht;subst ht;obtain ⟨a,rfl,rfl⟩:=hx;have:=zm8 hE w (ty:=o.type) ρ h;simp [resolve,invoke,builtin,this]
    cases h
   ·have:=zm4 (P:=P) w (ts:=⟨m⟩) (ty:=o.type) ρ h;simp at this;simp [resolve,invoke,builtin];have e:GH (fun x=>conc ρ (g x)) args=GH (conc ρ ∘ g) args:=rfl;rw [e,this];simp
   ·have:=zm5 (P:=P) w (ts:=⟨m⟩) (ty:=o.type) ρ h;simp at this;simp [resolve,invoke,builtin];have e:GH (fun x=>conc ρ (g x)) args=GH (conc ρ ∘ g) args:=rfl;rw [e,this];simp
   cases h
  cases h
 cases h
end
end
section
variable {ρ':Ren}
structure TR (ρ:Ren)(t:Tr Value)(nt:Nat)(tm:Array Value):Prop where
 size:tm.size=nt
 at_:∀i,i<nt→tm[i]?=some (conc ρ (nth t i))
 past:∀i,nt≤i→nth t i=undef
theorem TR.getD {ρ:Ren}{t:Tr Value}(h:TR ρ t nt tm)(i:Nat):tm.getD i undef=conc ρ (nth t i):=by
 by_cases hi:i<nt
 ·have:=h.at_ i hi;simp [this]
 rw [h.past i zo];have:tm.size≤i:=by rw [h.size];omega
 simp [B1 this]
theorem TR.agr {ρ:Ren}{t:Tr Value}(h:TR ρ t nt tm)(f:∀i,Nb m (nth t i))(a:Agr m ρ ρ'):TR ρ' t nt tm:=
 ⟨h.size,fun i d=>by rw [h.at_ i d,f i ρ ρ' a],h.past⟩
structure Rel where
 E:Env
 P:Program
 ok:Code→Prop
def pk (X:Rel)(ρ:Ren)(b:Nat):Blk→Obj→Prop
 | .row c e,o=>∃(junk:List Value) (fz:Nat×Nat),o=.cells (c.map (conc ρ)++junk).toArray e fz∧
   (∀off,off<gP c+gP junk→¬(fz.1≤off∧off<fz.2))∧(gro b=false→junk=[])∧(∀sz bt z,X.E.inf e=some (sz,bt,z)→gP junk=ρ.x b*sz)
 | .loop r p t nt ps assign body d,o=>∃(fn:FuncId) (tm:Array Value),o=.loop {state:=if r then .ready else (if p.isNone then .busy else .done),pending:=p,fn:=fn,tmps:=tm,params:=ps.toArray,assign:=assign,body:=body,defers:=ρ.b d}∧
   TR ρ t nt tm∧X.ok assign∧X.ok body
 | .dfr,o=>o=.deferred (some [])
 | .ro c,o=>∃(e:TypeId) (fz:Nat×Nat),o=.cells (c.map (conc ρ)).toArray e fz
def BNb (m:Nat):Blk→Prop
 | .row c _=>∀v∈c,Nb m v
 | .loop _ _ t _ _ _ _ d=>(∀i,Nb m (nth t i))∧d<m
 | .dfr=>True
 | .ro c=>∀v∈c,Nb m v
theorem BNb.mono {x:Blk}(h:BNb m x)(hm:m≤m'):BNb m' x:=by
 cases x with
 |row c e=>exact fun v a=>(h v a).mono hm
 |loop=>exact ⟨fun i=>(h.1 i).mono hm,Af h.2 hm⟩
 |dfr=>trivial
 |ro c=>exact fun v a=>(h v a).mono hm
theorem pk.agr {X:Rel}{ρ:Ren}{x:Blk}{o:Obj}(h:pk X ρ b x o)(g:BNb m x)(hb:b<m)(f:Agr m ρ ρ'):pk X ρ' b x o:=by
 cases x with
 |row c e=>
  obtain ⟨s,j,rfl,l,q,A⟩:=h;refine ⟨s,j,?_,l,q,fun C u z B=>?_⟩
  ·rw [Nb.map g f]
  rw [(f b hb).2];exact A C u z B
 |loop r p t nt ps a bd d=>
  obtain ⟨y,tm,rfl,l,q⟩:=h;exact ⟨y,tm,by rw [(f d g.2).1],l.agr g.1 f,q⟩
 |dfr=>exact h
 |ro c=>
  obtain ⟨e,j,rfl⟩:=h;exact ⟨e,j,by rw [Nb.map g f]⟩
structure Sim (X:Rel)(ρ:Ren)(h:Hp)(w:World):Prop where
 blk:∀b x,h.at b=some x→∃o,w.heap[ρ.b b]?=some o∧pk X ρ b x o
 inj:∀b b',(h.at b).isSome→(h.at b').isSome→ρ.b b=ρ.b b'→b=b'
def HNb (m:Nat)(h:Hp):Prop:=∀b x,h.at b=some x→b<m∧BNb m x
structure Post (X:Rel)(ρ:Ren)(n:Nat)(h:Hp)(w:World)(W:List Nat)(ρ':Ren)(v:Value)(h':Hp)(n':Nat)(w':World):Prop where
 agr:Agr (3*n) ρ ρ'
 le:n≤n'
 sim:Sim X ρ' h' w'
 nb:HNb (3*n') h'
 val:Nb (3*n') v
 wlt:∀b∈W,b<3*n
 wmem:∀b∈W,(h.at b).isSome
 fr:∀k,k<w.heap.size→(∀b∈W,ρ.b b≠k)→w'.heap[k]?=w.heap[k]?
 size:w.heap.size≤w'.heap.size
 os:w'.os=w.os
 tape:w'.tape=w.tape
 out:w'.output=w.output
 new:∀b,3*n≤b→(h'.at b).isSome→(w.heap.size≤ρ'.b b∨∃c∈W,ρ'.b b=ρ.b c)
 old:∀b,b<3*n→b∉W→h'.at b=h.at b
theorem Post.refl {X:Rel}{ρ:Ren}{n:Nat}{h:Hp}{w:World}(g:Sim X ρ h w)(d:HNb (3*n) h)(j:Nb (3*n) v):Post X ρ n h w [] ρ v h n w:=by
 refine ⟨Agr.refl _ _,eU,g,d,j,fun _ a=>?_,fun _ a=>?_,fun _ _ _=>rfl,eU,rfl,rfl,rfl,fun b a f=>?_,fun _ _ _=>rfl⟩
 ·cases a
 ·cases a
 obtain ⟨x,l⟩:=Aq.1 f;have:=(d b x l).1;omega
theorem yN:∀{W w:List Nat},b∈addW n0 W w↔b∈w∨(b∈W∧b<3*n0):=by
 intro W;induction W with
 |nil=>intro w;simp [addW]
 |cons c W ih=>
  intro w;unfold addW;split
  ·rename_i hc;have a:=tu hc;rw [ih];simp;constructor
   ·rintro (h|h)
    ·exact .inl h
    exact .inr ⟨.inr h.1,h.2⟩
   rintro (h|⟨rfl|h,h'⟩)
   ·exact .inl h
   ·omega
   exact .inr ⟨h,h'⟩
  rename_i hc;have a:c<3*n0:=by
   apply Cw;intro d;rw [oo d] at hc;cases hc
  rw [ih];simp;constructor
  ·rintro ((rfl|h)|h)
   ·exact .inr ⟨.inl rfl,a⟩
   ·exact .inl h
   exact .inr ⟨.inr h.1,h.2⟩
  rintro (h|⟨rfl|h,h'⟩)
  ·exact .inl (.inr h)
  ·exact .inl (.inl rfl)
  exact .inr ⟨h,h'⟩
theorem Post.trans {X:Rel}{ρ0 ρ:Ren}{n:Nat}{h0 h h':Hp}{w:World}{o:List Nat}
  (a:Post X ρ0 n0 h0 w0 o ρ v0 h n w)(b:Post X ρ n h w W ρ' v h' n' w'):Post X ρ0 n0 h0 w0 (addW n0 W o) ρ' v h' n' w':=by
 have F:=a.le;refine ⟨a.agr.trans b.agr zo,Aa F b.le,b.sim,b.nb,b.val,fun c f=>?_,fun c f=>?_,fun k C l=>?_,Aa a.size b.size,b.os.trans a.os,b.tape.trans a.tape,b.out.trans a.out,fun c f B=>?_,fun c f l=>?_⟩
 ·rcases yN.1 f with f|⟨_,f⟩
  ·exact a.wlt c f
  exact f
 ·rcases yN.1 f with f|⟨f,G⟩
  ·exact a.wmem c f
  by_cases h0c:c∈o
  ·exact a.wmem c h0c
  rw [←a.old c G h0c];exact b.wmem c f
 ·have D:w'.heap[k]?=w.heap[k]?:=by
   refine b.fr k (Af C a.size) fun c f e=>?_;by_cases hcn:c<3*n0
   ·refine l c (yN.2 (.inr ⟨f,hcn⟩)) ?_;rw [←(a.agr c hcn).1];exact e
   rcases a.new c zo (b.wmem c f) with g|⟨u,g,p⟩
   ·omega
   exact l u (yN.2 (.inl g)) (by rw [←p];exact e)
  rw [D];exact a.fr k C fun c f=>l c (yN.2 (.inl f))
 ·have s:∀d,3*n0≤d→(h.at d).isSome→(w0.heap.size≤ρ.b d∨∃c∈addW n0 W o,ρ.b d=ρ0.b c):=fun d q A=>by
   rcases a.new d q A with g|⟨u,g,p⟩
   ·exact .inl g
   exact .inr ⟨u,yN.2 (.inl g),p⟩
  by_cases hcn:c<3*n
  ·have A:(h.at c).isSome:=by
    by_cases j:c∈W
    ·exact b.wmem c j
    rw [←b.old c hcn j];exact B
   rw [(b.agr c hcn).1];exact s c f A
  rcases b.new c zo B with g|⟨d,g,p⟩
  ·exact .inl (Aa a.size g)
  rw [p];by_cases q:d<3*n0
  ·exact .inr ⟨d,yN.2 (.inr ⟨g,q⟩),(a.agr d q).1⟩
  exact s d zo (b.wmem d g)
 have j:c∉o:=fun h=>l (yN.2 (.inl h));have y:c∉W:=fun h=>l (yN.2 (.inr ⟨h,f⟩));rw [b.old c zo y,a.old c f j]
theorem qc (P:Program)(w:World)(a:Addr):∀(l:List Value) (i:Nat) (acc:Array Value),(∀j u,l[j]?=some u→w.cell? (a.add (i+j))=some u)→
  (loadCellsFrom a i (gP l) acc).run P w=.ok (acc++l.toArray) w:=by
 intro l;induction l with
 |nil=>intro i acc _;simp [loadCellsFrom]
 |cons v l ih=>
  intro i acc h;have d:w.cell? (a.add i)=some v:=h 0 v rfl;simp only [Ao,loadCellsFrom,AX,run_load,d,Ax];rw [ih (i+1) (acc.push v) (fun j u f=>by rw [show i+1+j=i+(j+1) from zo];exact h (j+1) u f)];simp
theorem rz (P:Program)(w:World)(a:Addr)(l:List Value)(n:Nat)(d:n=gP l)(h:∀j u,l[j]?=some u→w.cell? (a.add j)=some u):
  (loadCells a n).run P w=.ok l.toArray w:=by
 subst d;unfold loadCells;rw [qc P w a l 0 #[] (fun j u f=>by rw [sb];exact h j u f)];simp
section
variable {X:Rel}{ρ:Ren}{h:Hp}{w:World}
theorem zjc (p:Sim X ρ h w){x:Blk}(hb:h.at b=some x)(hx:x.cells=some c){u:Value}(g:c[i]?=some u):
  w.cell? ⟨ρ.b b,i,none⟩=some (conc ρ u):=by
 obtain ⟨o,d,f⟩:=p.blk b _ hb;have a:i<gP c:=(nN.1 g).1;have e:=(nN.1 g).2;cases x with
 |row c' j=>
  injection hx with hx
  subst hx;obtain ⟨q,l,rfl,_⟩:=f;simp [Fk,d,List.getElem?_append,a,e]
 |ro c'=>
  injection hx with hx
  subst hx;obtain ⟨j,l,rfl⟩:=f;simp [Fk,d,a,e]
 |loop=>cases hx
 |dfr=>cases hx
theorem pM (a:Addr)(h:a.spot=none)(n:Nat):a.add n=⟨a.block,a.off+n,none⟩:=by
 obtain ⟨b,o,s⟩:=a;subst h;unfold Cu;split
 ·rename_i h;subst h;rfl
 rfl
theorem xP {a:Addr}{n:Nat}(d:md h a n=some cs):
  ∃c x,h.at a.block=some x∧x.cells=some c∧a.spot=none∧a.off+n≤gP c∧cs=(c.drop a.off).take n:=by
 unfold md at d;split at d
 ·rename_i x hb;split at d
  ·rename_i c hx;split at d
   ·rename_i hc;simp at hc d;exact ⟨c,x,hb,hx,hc.2,hc.1,d.symm⟩
   cases d
  cases d
 cases d
theorem sD (s:Sim X ρ h w){a:Addr}{n:Nat}(p:md h a n=some cs):
  (gP cs)=n∧∀j u,(cs.map (conc ρ))[j]?=some u→w.cell? ((ρ.addr a).add j)=some u:=by
 obtain ⟨c,x,l,y,f,q,rfl⟩:=xP p;refine ⟨by simp;omega,fun j u g=>?_⟩;rw [List.getElem?_map,A7] at g;obtain ⟨v,d,rfl⟩:=g;rw [pM (ρ.addr a) f];have o:j<n:=by
  have:=(nN.1 d).1;simp at this;omega
 rw [List.getElem?_take_of_lt o,List.getElem?_drop] at d;exact zjc s l y d
theorem kq (p:HNb m h){a:Addr}{n:Nat}(l:md h a n=some cs):∀v∈cs,Nb m v:=by
 obtain ⟨c,x,j,d,s,o,rfl⟩:=xP l;intro v q;have f:=(p _ _ j).2;have g:=Bq (AB q);cases x with
 |row c' e'=>injection d with d;subst d;exact f v g
 |ro c'=>injection d with d;subst d;exact f v g
 |loop=>cases d
 |dfr=>cases d
theorem Nb.agg {l:List Value}(d:∀v∈l,Nb m v):Nb m (.agg l.toArray):=fun ρ ρ' a=>by
 simp [Nb.map d a]
theorem Nb.tuple {l:List Value}(d:∀v∈l,Nb m v):Nb m (.tuple l.toArray):=fun ρ ρ' a=>by
 simp [Nb.map d a]
theorem oM (j:EnvOk X.E X.P)(s:Sim X ρ h w)(q:HNb m h){a:Addr}(f:oN X.E t h a=some v):
  (loadVar t (ρ.addr a)).run X.P w=.ok (conc ρ v) w∧Nb m v∧∃x,h.at a.block=some x:=by
 unfold oN at f;split at f
 ·rename_i sz _ _ hg hi;simp at f;obtain ⟨cs,d,rfl⟩:=f;obtain ⟨g,o⟩:=sD s d;obtain ⟨c,e,l,_⟩:=xP d;refine ⟨?_,Nb.agg (kq q d),_,l⟩;have:=rz X.P w (ρ.addr a) (cs.map (conc ρ)) sz (by simp [g]) o;simp [loadVar,ti j hg,z9 j hi,this]
 ·rename_i hg;split at f
  ·rename_i u d;simp at f;subst f;obtain ⟨g,o⟩:=sD s d;obtain ⟨c,e,l,_⟩:=xP d;refine ⟨?_,kq q d u gN,_,l⟩;have p:=o 0 (conc ρ u) gN;have y:(ρ.addr a).add 0=ρ.addr a:=by simp [Cu]
   rw [y] at p;simp [loadVar,ti j hg,p]
  cases f
 cases f
end
structure Same (k:Nat)(w w':World):Prop where
 far:∀j,j≠k→w'.heap[j]?=w.heap[j]?
 size:w'.heap.size=w.heap.size
 os:w'.os=w.os
 tape:w'.tape=w.tape
 out:w'.output=w.output
theorem tQ (P:Program){fz:Nat×Nat}:∀(vs:List Value) (i:Nat) (c:List Value) (w:World),w.heap[k]?=some (.cells c.toArray e fz)→
  off+i+gP vs≤gP c→(∀p,p<gP c→¬(fz.1≤p∧p<fz.2))→(∀v∈vs,v.oneCell'=true)→
  ∃w',(storeCells ⟨k,off,none⟩ vs i).run P w=.ok () w'∧w'.heap[k]?=some (.cells (zu c (off+i) vs).toArray e fz)∧Same k w w':=by
 intro vs;induction vs with
 |nil=>
  intro i c w d _ _ _;refine ⟨w,by simp [storeCells],?_,fun _ _=>rfl,rfl,rfl,rfl,rfl⟩;simp [zu,d]
 |cons v vs ih=>
  intro i c w d q l f;simp only [Ao] at q;have o:(⟨k,off,none⟩:Addr).add i=⟨k,off+i,none⟩:=pM _ rfl _;have g:∃u,w.cell? ⟨k,off+i,none⟩=some u:=by
   refine ⟨c[off+i]'zo,?_⟩;simp [Fk,d]
  obtain ⟨u,s⟩:=g;have y:w.frozen? ⟨k,off+i,none⟩=false:=by
   have:=l (off+i) zo;simp [World.frozen?,d];omega
  have C:(store (⟨k,off+i,none⟩:Addr) v).run P w=.ok () (w.setCell ⟨k,off+i,none⟩ v):=by
   rw [run_store P w _ v _ (f v gN)];simp [s,y]
  have B:(w.setCell ⟨k,off+i,none⟩ v).heap[k]?=some (.cells (c.set (off+i) v).toArray e fz):=by
   simp [Gj,En,d]
  obtain ⟨w',F,G,a⟩:=ih (i+1) (c.set (off+i) v) (w.setCell ⟨k,off+i,none⟩ v) B (by simp;omega) (by simpa using l) (fun u s=>f u (by simp [s]));refine ⟨w',?_,?_,fun j A=>?_,?_,?_,?_,?_⟩
  ·simp only [storeCells,AX,o,C,Ax];exact F
  ·rw [G];congr 3;unfold zu;simp only [Ao];have f:(c.set (off+i) v).take (off+(i+1))=c.take (off+i)++[v]:=by
    rw [show off+(i+1)=off+i+1 from zo,Ck (by simp;omega)];rw [Ga eU];simp
   have D:(c.set (off+i) v).drop (off+(i+1)+gP vs)=c.drop (off+i+(gP vs+1)):=by
    rw [Gb zo];congr 1;omega
   rw [f,D];simp
  ·rw [a.far j A];simp [Gj,En];intro h;exact eN h.symm A
  ·rw [a.size];simp [Gj]
  ·rw [a.os];rfl
  ·rw [a.tape];rfl
  rw [a.out];rfl
theorem cM:∀{vs:List Value},ones vs=true→∀v∈vs,v.oneCell'=true:=by
 intro vs;induction vs with
 |nil=>intro _ v a;cases a
 |cons u vs ih=>
  intro h v a;cases u<;>simp [ones] at h<;>(rcases Ad.1 a with rfl|a)<;>first|rfl|exact ih h v a
theorem cN {ρ:Ren}(h:v.oneCell'=true):(conc ρ v).oneCell'=true:=by
 match v with
 | mo none=>simpa using h
 | mo (some _)=>simp [BO]
 | gS none _ _=>simpa using h
 | gS (some _) _ _=>simp [BO]
 | .func _ _ _=>simp [BO]
 | .agg _=>cases h
 | .tuple _=>cases h
 | jx _=>simp [BO]
 | gZ _ _=>simp [BO]
 | .float _ _=>simp [BO,conc]
 | .complex _ _ _=>simp [BO,conc]
 | jy _=>simp [BO]
 | .map _=>simp [BO,conc]
 | .chan _=>simp [BO,conc]
 | .nilFunc=>simp [BO,conc]
 | .nilIface=>simp [BO,conc]
 | .iface _ _=>simp [BO,conc]
theorem zar (f:Value→Value)(c vs junk:List Value)(off:Nat)(h:off+gP vs≤gP c):
  zu (c.map f++junk) off (vs.map f)=(zu c off vs).map f++junk:=by
 unfold zu;rw [Bu (by simp;omega),List.drop_append_of_le_length (by simp;omega)];simp [Dw,Ev]
theorem l0 (c vs:List Value)(off:Nat)(h:off+gP vs≤gP c):gP (zu c off vs)=gP c:=by
 unfold zu;simp;omega
theorem mG (h:v∈zu c off vs):v∈c∨v∈vs:=by
 unfold zu at h;simp at h;rcases h with h|h|h
 ·exact .inl (AB h)
 ·exact .inr h
 exact .inl (Bq h)
section
variable {X:Rel}{ρ:Ren}{h h':Hp}{w:World}
theorem tW {a:Addr}(d:qN h a vs=some h'):
  ∃c e,h.at a.block=some (.row c e)∧a.spot=none∧a.off+gP vs≤gP c∧ones vs=true∧∀b,h'.at b=if b=a.block then some (.row (zu c a.off vs) e) else h.at b:=by
 unfold qN at d;split at d
 ·rename_i c e hb;split at d
  ·rename_i hc;simp at hc;rw [xZ] at d;obtain ⟨j,f,g⟩:=Tr.set_some none _ _ _ _ _ d;injection f with f
   subst f;exact ⟨c,e,hb,hc.2.1,hc.1,hc.2.2,g⟩
  cases d
 cases d
theorem rY (P:Program)(D:Sim X ρ h w)(C:HNb (3*n) h){a:Addr}(F:∀v∈vs,Nb (3*n) v)(M:qN h a vs=some h'):
  ∃w',(storeCells (ρ.addr a) (vs.map (conc ρ))).run P w=.ok () w'∧∀v,Nb (3*n) v→Post X ρ n h w [a.block] ρ v h' n w':=by
 obtain ⟨c,e,g,L,A,U,p⟩:=tW M;obtain ⟨o,Y,B,T,rfl,G,V,hx⟩:=D.blk _ _ g;obtain ⟨w',Z,hw,l⟩:=tQ P (off:=a.off) (vs.map (conc ρ)) 0 (c.map (conc ρ)++B) w Y (by simp;omega) (by simpa using G)
  (fun v F=>by
   simp at F;obtain ⟨u,hu,rfl⟩:=F;exact cN (cM U u hu))
 refine ⟨w',?_,fun v O=>?_⟩
 ·have:ρ.addr a=⟨ρ.b a.block,a.off,none⟩:=by unfold Ren.addr;rw [L]
  rw [this];exact Z
 have q:=(C _ _ g).1;refine ⟨Agr.refl _ _,eU,⟨fun b x d=>?_,fun b S j y s=>?_⟩,fun b x d=>?_,O,?_,?_,fun k hk H=>?_,by rw [l.size];exact AL _,l.os,l.tape,l.out,fun b I j=>?_,fun b I H=>?_⟩
 ·rw [p] at d;split at d
  ·rename_i hba;subst hba;injection d with d
   subst d;refine ⟨_,hw,B,T,?_,?_,V,hx⟩
   ·rw [AJ,zar _ _ _ _ _ A]
   rw [l0 _ _ _ A];exact G
  rename_i hba;obtain ⟨o',J,K⟩:=D.blk b x d;refine ⟨o',?_,K⟩;rw [l.far _ (fun s=>hba (D.inj b a.block (by rw [d];rfl) (by rw [g];rfl) s))];exact J
 ·apply D.inj b S _ _ s
  ·rw [p] at j;split at j
   ·rename_i hba;subst hba;rw [g];rfl
   exact j
  rw [p] at y;split at y
  ·rename_i hba;subst hba;rw [g];rfl
  exact y
 ·rw [p] at d;split at d
  ·rename_i hba;subst hba;injection d with d
   subst d;refine ⟨q,fun v N=>?_⟩;rcases mG N with h|h
   ·exact (C _ _ g).2 v h
   exact F v h
  exact C b x d
 ·intro b f;simp at f;subst f;exact q
 ·intro b f;simp at f;subst f;rw [g];rfl
 ·rw [l.far];exact fun e=>H a.block gN e.symm
 ·rw [p] at j;split at j
  ·rename_i hba;subst hba;omega
  obtain ⟨x,R⟩:=Aq.1 j;have:=(C b x R).1;omega
 rw [p,eP (fun s=>H (by simp [s]))]
def Ren.upd (ρ:Ren)(b k x:Nat)(hx:gro b=false→x=0)(hb:b%3≠0):Ren where
 b c:=if c=b then k else ρ.b c
 x c:=if c=b then x else ρ.x c
 ex c hc:=by
  split
  ·rename_i h;subst h;exact hx hc
  exact ρ.ex c hc
 gl g:=by
  rw [eP zo];exact ρ.gl g
theorem Ren.upd_agr (ρ:Ren)(b k x:Nat)(hx:gro b=false→x=0)(hb:b%3≠0)(hm:m≤b):Agr m ρ (ρ.upd b k x hx hb):=fun c a=>by
 simp [Ren.upd,show ¬c=b from zo]
theorem pB (J:Sim X ρ h w)(A:HNb (3*n) h){x:Nat}{y:Blk}{o:Obj}(hx:gro b=false→x=0)(q:b%3≠0)(hb:3*n≤b)(K:b<3*(n+1))
  (M:k=w.heap.size)(F:w'.heap=w.heap.push o)(P:w'.os=w.os)(R:w'.tape=w.tape)(H:w'.output=w.output)
  (s:∀c,h'.at c=if c=b then some y else h.at c)(I:pk X (ρ.upd b k x hx q) b y o)(N:BNb (3*n) y)(U:Nb (3*(n+1)) v):
  Post X ρ n h w [] (ρ.upd b k x hx q) v h' (n+1) w':=by
 have p:=ρ.upd_agr b k x hx q hb;have u:∀c z,h.at c=some z→ρ.b c<w.heap.size:=fun c z a=>by
  obtain ⟨S,B,_⟩:=J.blk c z a;exact (Aw.1 B).1
 refine ⟨p,zo,⟨fun c z a=>?_,fun c g l G D=>?_⟩,fun c z a=>?_,U,fun _ a=>eN a og,fun _ a=>eN a og,fun j V _=>?_,?_,P,R,H,fun c a l=>?_,fun c a _=>?_⟩
 ·rw [s] at a;split at a
  ·rename_i hcb;subst hcb;injection a with a
   subst a;refine ⟨o,?_,I⟩;simp [Ren.upd,F,M]
  rename_i hcb;obtain ⟨S,B,T⟩:=J.blk c z a;have Y:=u c z a;refine ⟨S,?_,T.agr (A c z a).2 (A c z a).1 p⟩;simp only [Ren.upd,eP hcb,F];rw [DY,eP zo];exact B
 ·have f:∀d,(h'.at d).isSome→d≠b→(h.at d).isSome:=fun d L O=>by rw [s,eP O] at L;exact L
  by_cases h1:c=b
  ·by_cases h2:g=b
   ·rw [h1,h2]
   obtain ⟨z,C⟩:=Aq.1 (f g G h2);have:=u g z C;simp [Ren.upd,h1,h2] at D;omega
  obtain ⟨z,C⟩:=Aq.1 (f c l h1);have:=u c z C;by_cases h2:g=b
  ·simp [Ren.upd,h1,h2] at D;omega
  simp [Ren.upd,h1,h2] at D;exact J.inj c g (f c l h1) (f g G h2) D
 ·rw [s] at a;split at a
  ·rename_i hcb;subst hcb;injection a with a
   subst a;exact ⟨K,N.mono zo⟩
  exact ⟨by have:=(A c z a).1;omega,(A c z a).2.mono zo⟩
 ·rw [F,DY,eP zo]
 ·rw [F];simp
 ·rw [s] at l;split at l
  ·rename_i hcb;left;simp [Ren.upd,hcb,M]
  obtain ⟨z,C⟩:=Aq.1 l;have:=(A c z C).1;omega
 rw [s,eP zo]
end
end
theorem zj8 (z:List Value)(sz:Nat)(a:gP z=sz)(n:Nat):((Hg (n*sz)).map fun i=>(z.toArray)[i%z.toArray.size]!)=(rep n z).toArray:=by
 induction n with
 |zero=>simp [rep]
 |succ n ih=>
  apply CR;have d:(G2 (fun i=>(z.toArray)[i%z.toArray.size]!) (Hg ((n+1)*sz))).toList=(AI ((n+1)*sz)).map fun i=>(z.toArray)[i%z.toArray.size]! :=by simp
  have e:(AI (n*sz)).map (fun i=>(z.toArray)[i%z.toArray.size]!)=rep n z:=by
   have:=congrArg Array.toList ih;simpa using this
  rw [d,show (n+1)*sz=sz+n*sz from by rw [Bo];omega,List.range_add,AP];show _=z++rep n z;congr 1
  ·apply List.ext_getElem
   ·simp [a]
   intro i b c;simp at b;simp [a,Nat.mod_eq_of_lt b];rw [kF c];rfl
  rw [←e,List.map_map];apply A2;intro i _;simp [a]
theorem zay (z:List Value)(n:Nat):gP (rep n z)=n*gP z:=by
 induction n with
 |zero=>simp [rep]
 |succ n ih=>simp [rep,ih,Bo];omega
theorem qg {z:List Value}:∀{n:Nat},v∈rep n z→v∈z:=by
 intro n;induction n with
 |zero=>intro h;simp [rep] at h
 |succ n ih=>
  intro h;simp [rep] at h;rcases h with h|h
  ·exact h
  exact ih h
theorem vW (h:closed z=true)(ρ:Ren):∀v∈zn z,conc ρ v=v:=by
 have e:=yz ρ z;rw [yA h] at e;intro v a;have:(zn z).map (conc ρ)=(zn z).map id:=by rw [←e];simp
 exact Fl.1 this v a
theorem pn (a:Array α)(o:α)(f:α→α):(a.push o).modify a.size f=a.push (f o):=by
 apply Array.ext_getElem?;intro i;rw [En,DY,DY];by_cases h:a.size=i
 ·simp [h]
 rw [eP h,eP (fun e=>h e.symm),eP (fun e=>h e.symm)]
section
variable {X:Rel}{ρ:Ren}{h h':Hp}{w:World}
theorem rG (m:Mk)(n:Nat):m.name n%3≠0∧3*n≤m.name n∧m.name n<3*(n+1)∧gro (m.name n)=m.g:=by
 unfold Mk.name;split<;>rename_i hg<;>rw [hg]<;>refine ⟨zo,zo,zo,?_⟩
 ·unfold gro;rw [show (3*n+1)%3=1 from zo];rfl
 unfold gro;rw [show (3*n+2)%3=2 from zo];rfl
theorem pD (D:Sim X ρ h w)(C:HNb (3*n) h)(m:Mk)(H:m.g=false)(B:∀ρ',Agr (3*n) ρ ρ'→w'.heap=w.heap.push (.cells (m.c.map (conc ρ')).toArray m.e (0,0)))
  (a:w'.os=w.os∧w'.tape=w.tape∧w'.output=w.output)(A:∀v∈m.c,Nb (3*n) v)(i:∀c,h'.at c=if c=m.name n then some (.row m.c m.e) else h.at c):
  ∃ρ',conc ρ' (m.val n)=(match m.s with|none=>mo (some ⟨w.heap.size,0,none⟩)|some (l,c)=>gS (some ⟨w.heap.size,0,none⟩) l c)∧Post X ρ n h w [] ρ' (m.val n) h' (n+1) w':=by
 obtain ⟨a,u,f⟩:=a;obtain ⟨b,p,q,G⟩:=rG m n;have j:gro (m.name n)=false→(0:Nat)=0:=fun _=>rfl;have d:=ρ.upd_agr (m.name n) w.heap.size 0 j b p;refine ⟨ρ.upd (m.name n) w.heap.size 0 j b,?_,pB D C j b p q rfl (B _ d) a u f i ⟨[],(0,0),gN,gN,fun _=>rfl,fun I F z _=>by simp [Ren.upd]⟩ A ?_⟩
 ·unfold Mk.val;split<;>rename_i hms<;>simp [Ren.addr,Ren.upd,hms]
 intro J K y;have:=y (m.name n) q;unfold Mk.val;split<;>simp [Ren.addr,this.1,this.2]
theorem zkl (J:Sim X ρ h w)(I:HNb (3*n) h)(m:Mk)(B:m.g=true){x:Nat}{junk:List Value}{fz:Nat×Nat}(H:∀ρ',Agr (3*n) ρ ρ'→w'.heap=w.heap.push (.cells (m.c.map (conc ρ')++junk).toArray m.e fz))
  (C:w'.os=w.os)(D:w'.tape=w.tape)(j:w'.output=w.output)(G:∀v∈m.c,Nb (3*n) v)(A:∀off,off<gP m.c+gP junk→¬(fz.1≤off∧off<fz.2))
  (hx:∀b d z,X.E.inf m.e=some (b,d,z)→gP junk=x*b)(p:∀c,h'.at c=if c=m.name n then some (.row m.c m.e) else h.at c):
  ∃ρ',conc ρ' (m.val n)=(match m.s with|none=>mo (some ⟨w.heap.size,0,none⟩)|some (l,c)=>gS (some ⟨w.heap.size,0,none⟩) l (c+x))∧Post X ρ n h w [] ρ' (m.val n) h' (n+1) w':=by
 obtain ⟨f,q,u,y⟩:=rG m n;have a:gro (m.name n)=false→x=0:=fun h=>by rw [y,B] at h;cases h
 have i:=ρ.upd_agr (m.name n) w.heap.size x a f q;refine ⟨ρ.upd (m.name n) w.heap.size x a f,?_,pB J I a f q u rfl (H _ i) C D j p ⟨junk,fz,rfl,A,(fun h=>eN h (by rw [y,B];simp)),fun b d z K=>by simp [Ren.upd];exact hx b d z K⟩ G ?_⟩
 ·unfold Mk.val;split<;>rename_i hms<;>simp [Ren.addr,Ren.upd,hms]
 intro L M F;have:=F (m.name n) u;unfold Mk.val;split<;>simp [Ren.addr,this.1,this.2]
def zrm (w:World)(bs:ByteArray)(e:TypeId):Nat:=Question.cut (.appendCap bs.size 0 e) (w.tape w.drawn (.appendCap bs.size 0 e))
theorem zpt (ρ:Ren)(g:Operand→Value)(l:Array (Nat×Operand)):G2 (fun x=>match x with|(i,x)=>(i,conc ρ (g x))) l=((psE g l).map fun p=>(p.1,conc ρ p.2)).toArray:=by
 obtain ⟨l⟩:=l;simp [psE]
theorem iS {g:Nat→Option (Nat×Nat)}:∀{a:List (Nat×Value)} {c r:List Value},me c g a=some r→∀v∈r,v∈c∨∃p∈a,v∈zn p.2:=by
 intro a;induction a with
 |nil=>intro c r h v e;simp [me] at h;subst h;exact .inl e
 |cons p a ih=>
  intro c r h v e;obtain ⟨i,u⟩:=p;unfold me at h;split at h
  ·cases h
  split at h
  ·cases h
  rcases ih h v e with b|⟨q,f,b⟩
  ·rcases mG b with d|d
   ·exact .inl d
   exact .inr ⟨(i,u),gN,d⟩
  exact .inr ⟨q,by simp [f],b⟩
theorem Nb.cells (h:Nb m v):∀u∈zn v,Nb m u:=by
 intro u b ρ c a;have e:=congrArg zn (h ρ c a);rw [yz,yz] at e;exact Fl.1 e u b
theorem zkj (hE:EnvOk X.E X.P)(hs:Sim X ρ h w)(hn:HNb (3*n) h){g:Operand→Value}(hgn:∀x,Nb (3*n) (g x)){m:Mk}(hm:mkE X.E o.op g=some m)
  (hset:∀c,h'.at c=if c=m.name n then some (.row m.c m.e) else h.at c):
  ∃ρ' w',(execOp (fun x=>conc ρ (g x)) o).run X.P w=.ok (.value (conc ρ' (m.val n))) w'∧Post X ρ n h w [] ρ' (m.val n) h' (n+1) w':=by
 unfold mkE at hm;unfold execOp;split at hm<;>rename_i ho<;>simp only [ho]
 ·split at hm
  ·rename_i e _ _ _ z hz;simp at hm;subst hm;have hcl:=(hE.inf _ _ _ _ hz).2;obtain ⟨ρ',hv,hp⟩:=pD (w':=w.alloc (.cells z.cells e)) hs hn ⟨zn z,e,false,none⟩ rfl (fun ρ' _=>by
    rw [←yz,yA hcl,yS];rfl) R3 (fun v hv=>Nb.cells (Nb.closed hcl) v hv) hset
   refine ⟨ρ',_,?_,hp⟩;rw [hv];simp [Instr.alloc,ry hE hz,newVar,newRow]
  cases hm
 ·rename_i e x;simp at hm;subst hm;obtain ⟨ρ',hv,hp⟩:=pD (w':=w.alloc (.cells (conc ρ (g x)).cells e)) hs hn ⟨zn (g x),e,false,none⟩ rfl (fun ρ' ha=>by
   rw [Nb.map (fun v hv=>Nb.cells (hgn x) v hv) ha,←yz,yS];rfl) R3 (fun v hv=>Nb.cells (hgn x) v hv) hset
  refine ⟨ρ',_,?_,hp⟩;rw [hv];simp [Instr.box,newVar,newRow]
 ·rename_i t len l;unfold sR at hm;split at hm
  ·rename_i e hu;have hF:=hE.slice hu;split at hm
   ·rename_i sz _ z hz;split at hm
    ·rename_i hb;simp at hb;split at hm
     ·rename_i cs hcs;simp at hm;subst hm;have hcl:=(hE.inf _ _ _ _ hz).2;have hfr:=kK ρ _ (fun j=>some (j*sz,sz)) (fun _ _ h=>h) _ _ _ hcs;have hzc:(rep len (zn z)).map (conc ρ)=rep len (zn z):=by
       conv=>rhs;rw [←Eb (rep len (zn z))]
       exact A2 fun v hv=>vW hcl ρ v (qg hv)
      rw [hzc] at hfr;have hnb:∀v∈cs,Nb (3*n) v:=fun v hv=>by
       rcases iS hcs v hv with h1|⟨p,hp,h1⟩
       ·exact Nb.cells (Nb.closed hcl) v (qg h1)
       simp [psE] at hp;obtain ⟨a,b,_,rfl⟩:=hp;exact Nb.cells (hgn b) v h1
      obtain ⟨ρ',hv,hp⟩:=pD (w':=w.alloc (.cells (cs.map (conc ρ)).toArray e)) hs hn ⟨cs,e,false,some (len,len)⟩ rfl (fun ρ' ha=>by rw [Nb.map hnb ha];rfl) R3 hnb hset;refine ⟨ρ',_,?_,hp⟩;rw [hv];have hl2:¬len*sz>2^24:=zo;have hzero:((Hg (len*sz)).map fun i=>((if len*sz=0 then #[] else z.cells):Array Value)[i%((if len*sz=0 then #[] else z.cells):Array Value).size]!)=(rep len (zn z)).toArray:=by
       by_cases h0:len*sz=0
       ·simp only [h0,if_true];have:gP (rep len (zn z))=0:=by rw [zay,hb.2,h0]
        rw [List.eq_nil_of_length_eq_zero this];simp
       simp only [h0,if_false];have:=zj8 (zn z) sz hb.2 len;rw [yS] at this ⊢;simpa using this
      rw [zpt];unfold Instr.buildSlice;simp only [AX,run_underlying hF,Ax,z9 hE hz];rw [eP hl2];simp only [AX,Cm,Ax,Sem.run_ite,ry hE hz];by_cases h0:len*sz=0
      ·simp only [h0,if_true,Ax] at hzero ⊢;rw [hzero];simp only [hfr,AX,newRow,run_newObj,Ax,Cm];rfl
      simp only [h0,if_false,Ax] at hzero ⊢;rw [hzero];simp only [hfr,AX,newRow,run_newObj,Ax,Cm];rfl
     cases hm
    cases hm
   cases hm
  cases hm
 ·rename_i t l c;unfold tn at hm;split at hm
  ·rename_i e k1 len k2 cap hu hl hc;have hF:=hE.slice hu;split at hm
   ·rename_i sz bt z hz;split at hm
    ·rename_i hb;simp at hb;simp at hm;subst hm;have hcl:=(hE.inf _ _ _ _ hz).2;obtain ⟨⟨i,hi1,hi2,hi3,hi4⟩,_⟩:=hE.inf _ _ _ _ hz;have hnb:∀v∈rep cap (zn z),Nb (3*n) v:=fun v hv=>Nb.cells (Nb.closed hcl) v (qg hv);have hzc:∀ρ':Ren,(rep cap (zn z)).map (conc ρ')=rep cap (zn z):=fun ρ'=>by
      conv=>rhs;rw [←Eb (rep cap (zn z))]
      exact A2 fun v hv=>vW hcl ρ' v (qg hv)
     obtain ⟨ρ',hv,hp⟩:=pD (w':=w.alloc (.cells (rep cap (zn z)).toArray e)) hs hn ⟨rep cap (zn z),e,false,some (len,cap)⟩ rfl (fun ρ' ha=>by rw [hzc];rfl) R3 hnb hset;refine ⟨ρ',_,?_,hp⟩;rw [hv];have hr:=run_make (P:=X.P) w t e i z hF hi1 hi4 k1 k2 (len:Int) (cap:Int) zo zo (by
      rw [hi3];have:((bt*cap:Nat):Int)≤281474976710656:=by
       have:=hb.2.1;rw [Nat.mul_comm];omega
      rwa [Int.natCast_mul] at this) zo
     have hzero:madeCells z.cells (cap*sz)=(rep cap (zn z)).toArray:=by
      have:=zj8 (zn z) sz hb.2.2.2 cap;rw [yS] at this ⊢;simpa [madeCells] using this
     simp only [Int.toNat_natCast,hi2,hzero] at hr;simp only [hl,hc,ja,AX];have e1:(Int.ofNat len)=(len:Int):=rfl;have e2:(Int.ofNat cap)=(cap:Int):=rfl;rw [e1,e2,hr];simp
    cases hm
   cases hm
  cases hm
 ·rename_i t d x;unfold vI at hm;split at hm
  ·rename_i bs _ e hx ht hd;obtain ⟨D,hD⟩:=hE.some_ ht;have hF:=hE.slice hd;split at hm
   ·rename_i he hi;have hu:=hE.int he;simp at hm;subst hm;let cp:=zrm w bs e
    have hcp:bs.size≤cp:=by
     show bs.size≤bs.size+_;omega
    let junk:List Value:=ns (cp-bs.size) (gZ .u8 0)
    let cs:List Value:=bs.data.toList.map fun b=>gZ .u8 b.toNat
    have hlen:gP cs=bs.size:=by simp [cs]
    have hconc:∀ρ':Ren,cs.map (conc ρ')=cs:=fun ρ'=>by simp [cs]
    let w':World:={w with heap:=w.heap.push (.cells (cs++junk).toArray e (cp,cp+1)),drawn:=w.drawn+1}
    obtain ⟨ρ',hv,hp⟩:=zkl (w':=w') hs hn ⟨cs,e,true,some (bs.size,bs.size)⟩ rfl (x:=cp-bs.size) (junk:=junk) (fz:=(cp,cp+1)) (fun ρ' ha=>by
      show w.heap.push _=_;rw [hconc]) rfl rfl rfl (fun v hv=>by
      simp [cs] at hv;obtain ⟨b,_,rfl⟩:=hv;exact Nb.int) (by
      intro off hoff;simp [hlen,junk] at hoff;simp;omega) (by
      intro sz bt z hz;rw [hi] at hz;injection hz with hz
      injection hz with hz
      simp [junk,←hz]) hset
    refine ⟨ρ',w',?_,hp⟩;rw [hv];simp only [hx,vn];have hconv:(convert t d (jy bs)).run X.P w=(Gn e bs).run X.P w:=by
     simp [convert,run_underlying hD,run_underlying hF,run_underlying hu]
    simp only [AX,hconv];have hcut:Question.cut (.appendCap bs.size 0 e) (w.tape w.drawn (.appendCap bs.size 0 e))=cp:=rfl;simp only [Gn,AX,run_choose,Hn,A1,if_false,Ax,hcut,newRow,run_newObj,Cm,markStringish,run_shape];have hsz:(G2 (fun b:UInt8=>gZ .u8 (b.toNat:Int)) bs.data++C0 (cp-bs.size) (gZ .u8 0))=(cs++junk).toArray:=by
     apply CR;simp [cs,junk]
    rw [hsz];have hshape:({w with heap:=w.heap.push (.cells (cs++junk).toArray e),drawn:=w.drawn+1}:World).shape? w.heap.size=some (e,cp):=by
     simp [World.shape?,hlen,junk];omega
    rw [hshape];simp only [Ax,run_freeze,Cm];have hfr:({w with heap:=w.heap.push (.cells (cs++junk).toArray e),drawn:=w.drawn+1}:World).freeze {block:=w.heap.size,off:=cp} 1=w':=by
     simp only [World.freeze,w'];rw [eP zo];congr 1;rw [pn];simp
    rw [hfr];have:bs.size+(cp-bs.size)=cp:=zo;rw [this]
   cases hm
  cases hm
 cases hm
end
section
variable {new:List Value}{ρ':Ren}
section
variable {X:Rel}{ρ:Ren}{h h':Hp}{w:World}
theorem iF {P:Program}{x:Value}(d:lenOf? x=some m):(Ew (conc ρ x)).run P w=.ok m w:=by
 unfold lenOf? at d;split at d
 ·rename_i a l c;simp at d;subst d;cases a<;>simp [Ew]
 ·simp at d;subst d;simp [Ew]
 cases d
theorem xQ (o:Sim X ρ h w)(l:HNb m h){x:Value}(d:wB h size k x=some cs):
  (BK size k (conc ρ x)).run X.P w=.ok (cs.map (conc ρ)).toArray w∧(∀v∈cs,Nb m v):=by
 unfold wB at d;split at d
 ·rename_i a _ _;split at d
  ·rename_i h0;simp at d;subst d;refine ⟨?_,fun _ h=>by cases h⟩;simp [BK,h0,loadCells,loadCellsFrom]
  obtain ⟨i,f⟩:=sD o d;refine ⟨?_,kq l d⟩;obtain ⟨_,_,_,_,j,_,_⟩:=xP d;rw [z5,ρ.adrS_eq (.inl j)];simp only [BK];exact rz X.P w (ρ.addr a) (cs.map (conc ρ)) (k*size) (by simp [i]) f
 ·simp at d;subst d;exact ⟨by simp [BK],fun _ h=>by cases h⟩
 ·rename_i s;simp at d;subst d;refine ⟨?_,fun v g=>?_⟩
  ·simp only [vn,BK,Cm];congr 1;apply CR;rw [Array.toList_map,G1];have e:(conc ρ ∘ fun b:UInt8=>gZ Gp (b.toNat:Int))=fun b:UInt8=>gZ Gp (b.toNat:Int):=by funext b;simp
   simp [e]
  have g:=AB g;simp at g;obtain ⟨b,_,rfl⟩:=g;exact Nb.int
 cases d
theorem Post.undel {g:Hp}(p:Post X ρ n g w W ρ' v h' n' w')(hb:(h.at b).isSome)(i:b<3*n)(j:∀c,g.at c=if c=b then none else h.at c)(l:h'.at b=none):
  Post X ρ n h w (b::W) ρ' v h' n' w':=by
 refine ⟨p.agr,p.le,p.sim,p.nb,p.val,fun c a=>?_,fun c a=>?_,fun k u f=>p.fr k u fun c a=>f c (by simp [a]),p.size,p.os,p.tape,p.out,fun c a s=>?_,fun c a f=>?_⟩
 ·rcases Ad.1 a with rfl|a
  ·exact i
  exact p.wlt c a
 ·rcases Ad.1 a with rfl|a
  ·exact hb
  have:=p.wmem c a;rw [j] at this;split at this
  ·cases this
  exact this
 ·rcases p.new c a s with g|⟨d,o,q⟩
  ·exact .inl g
  exact .inr ⟨d,by simp [o],q⟩
 simp at f;rw [p.old c a f.2,j,eP f.1]
theorem bo (n:Nat):gro (3*n+1)=true:=by unfold gro;rw [show (3*n+1)%3=1 from zo];rfl
theorem za1 (P:Program)(I:Sim X ρ h w)(y:HNb (3*n) h){g f need:Nat}(hb:h.at b=some (.row c e))(hi:X.E.inf e=some (size,bt,z))
  (a9:gP c=f*size)(ac:g*size≤gP c)(a7:gP new=(need-g)*size)(ab:g≤need)(M:need≤f+ρ.x b)(a4:f<need)(i:ones new=true)(Y:∀v∈new,Nb (3*n) v)
  (L:∀d,h'.at d=if d=3*n+1 then some (.row (c.take (g*size)++new) e) else if d=b then none else h.at d):
  ∃ρ' w',(storeCells ⟨ρ.b b,g*size,none⟩ (new.map (conc ρ))).run P w=.ok () w'∧conc ρ' (gS (some ⟨3*n+1,0,none⟩) need need)=gS (some ⟨ρ.b b,0,none⟩) need (f+ρ.x b)∧
   Post X ρ n h w [b] ρ' (gS (some ⟨3*n+1,0,none⟩) need need) h' (n+1) w':=by
 obtain ⟨o,ho,J,fz,rfl,R,hj,hx⟩:=I.blk _ _ hb;have aa:=hx _ _ _ hi;have a6:g*size+(need-g)*size=need*size:=by rw [←An];congr 1;omega
 have a3:(f+ρ.x b)*size=f*size+ρ.x b*size:=An _ _ _;have a5:need*size≤(f+ρ.x b)*size:=Nat.mul_le_mul_right _ M;obtain ⟨w',hr,hw,D⟩:=tQ P (off:=g*size) (new.map (conc ρ)) 0 (c.map (conc ρ)++J) w ho (by simp;omega) (by simpa using R)
  (fun v j=>by
   simp at j;obtain ⟨u,hu,rfl⟩:=j;exact cN (cM i u hu))
 have U:=(y _ _ hb).1;have C:gro (3*n+1)=false→f+ρ.x b-need=0:=fun h=>by rw [bo] at h;cases h
 have A:(3*n+1)%3≠0:=zo;have s:=ρ.upd_agr (3*n+1) (ρ.b b) (f+ρ.x b-need) C A (m:=3*n) zo;refine ⟨ρ.upd (3*n+1) (ρ.b b) (f+ρ.x b-need) C A,w',hr,?_,?_⟩
 ·simp [Ren.addr,Ren.upd];omega
 have H:∀v∈c.take (g*size)++new,Nb (3*n) v:=fun v j=>by
  rcases AY.1 j with j|j
  ·exact (y _ _ hb).2 v (AB j)
  exact Y v j
 have p:∀d,(h'.at d).isSome→d≠3*n+1→d≠b∧(h.at d).isSome:=fun d a B=>by
  rw [L,eP B] at a;split at a
  ·cases a
  exact ⟨by assumption,a⟩
 refine ⟨s,zo,⟨fun d x a=>?_,fun d G S T l=>?_⟩,fun d x a=>?_,?_,?_,?_,fun k hk K=>?_,by rw [D.size];exact AL _,D.os,D.tape,D.out,fun d a hi=>?_,fun d a K=>?_⟩
 ·rw [L] at a;split at a
  ·rename_i hdn;subst hdn;injection a with a
   subst a;refine ⟨_,?_,(c.map (conc ρ)++J).drop (need*size),fz,rfl,?_,fun h=>?_,fun sz a8 z' F=>?_⟩
   ·have e1:(ρ.upd (3*n+1) (ρ.b b) (f+ρ.x b-need) C A).b (3*n+1)=ρ.b b:=by simp [Ren.upd]
    rw [e1,hw,Nb.map H s];congr 3;unfold zu;rw [AJ,AP,List.append_assoc];congr 1
    ·rw [Bu (by simp;omega),Dw]
    congr 1;congr 1;simp;omega
   ·intro a2 V;apply R;simp at V;omega
   ·rw [bo] at h;cases h
   rw [hi] at F;injection F with F
   injection F with F
   subst F;simp [Ren.upd,Nat.sub_mul];omega
  rename_i hdn;split at a
  ·cases a
  rename_i hdb;obtain ⟨o',Z,a0⟩:=I.blk d x a;refine ⟨o',?_,a0.agr (y d x a).2 (y d x a).1 s⟩;have:(ρ.upd (3*n+1) (ρ.b b) (f+ρ.x b-need) C A).b d=ρ.b d:=by simp [Ren.upd,hdn]
  rw [this,D.far _ (fun l=>hdb (I.inj d b (by rw [a];rfl) (by rw [hb];rfl) l))];exact Z
 ·have N:∀q,(h'.at q).isSome→q≠3*n+1→ρ.b q≠ρ.b b:=fun q O B e=>(p q O B).1 (I.inj q b (p q O B).2 (by rw [hb];rfl) e);by_cases i:d=3*n+1
  ·by_cases h2:G=3*n+1
   ·rw [i,h2]
   simp [Ren.upd,i,h2] at l;exact eN l.symm (N G T h2)
  by_cases h2:G=3*n+1
  ·simp [Ren.upd,i,h2] at l;exact eN l (N d S i)
  simp [Ren.upd,i,h2] at l;exact I.inj d G (p d S i).2 (p G T h2).2 l
 ·rw [L] at a;split at a
  ·rename_i hdn;subst hdn;injection a with a
   subst a;exact ⟨zo,fun v j=>(H v j).mono zo⟩
  split at a
  ·cases a
  exact ⟨by have:=(y d x a).1;omega,(y d x a).2.mono zo⟩
 ·intro ρ1 ρ2 ha;have:=ha (3*n+1) zo;simp [Ren.addr,this.1,this.2]
 ·intro d a;simp at a;subst a;exact U
 ·intro d a;simp at a;subst a;rw [hb];rfl
 ·rw [D.far];exact fun e=>K b gN e.symm
 ·by_cases i:d=3*n+1
  ·right;refine ⟨b,gN,?_⟩;simp [Ren.upd,i]
  obtain ⟨x,a1⟩:=Aq.1 (p d hi i).2;have:=(y d x a1).1;omega
 simp at K;rw [L,eP zo,eP K]
theorem oS (y:Sim X ρ h w)(s:HNb (3*n) h){need a drawn:Nat}(hi:X.E.inf e=some (size,bt,z))(j:gP (zn z)=size)(B:need≤a)
  (g:∀v∈cs,Nb (3*n) v)(q:∀d,h'.at d=if d=3*n+1 then some (.row cs e) else h.at d):
  ∃ρ',conc ρ' (gS (some ⟨3*n+1,0,none⟩) need need)=gS (some ⟨w.heap.size,0,none⟩) need a∧
   Post X ρ n h w [] ρ' (gS (some ⟨3*n+1,0,none⟩) need need) h' (n+1) {w with heap:=w.heap.push (.cells ((cs.map (conc ρ)).toArray++C4 z.cells (a-need)) e),drawn:=drawn}:=by
 have l:(C4 z.cells (a-need)).toList.length=(a-need)*size:=by
  rw [yS] at j;have:z.cells.size=size:=by simpa using j
  simp [C4,this]
 obtain ⟨ρ',i,u⟩:=zkl (w':={w with heap:=w.heap.push (.cells ((cs.map (conc ρ)).toArray++C4 z.cells (a-need)) e),drawn:=drawn}) y s ⟨cs,e,true,some (need,need)⟩ rfl
  (x:=a-need) (junk:=(C4 z.cells (a-need)).toList) (fz:=(0,0)) (fun ρ' p=>by
   show w.heap.push _=_;rw [Nb.map g p];congr 2;apply CR;simp) rfl rfl rfl g (by intro C _;simp) (fun D A z' f=>by
    rw [hi] at f;injection f with f
    injection f with f
    rw [l,f]) q
 refine ⟨ρ',?_,u⟩;have o:need+(a-need)=a:=zo;simp only [Mk.val,Mk.name] at i;rw [i,o]
theorem rP {P:Program}{i:TypeInfo}{D:TypeDesc}(u:P.underlying sT=some (.slice e))(hi:P.info? e=some i)(p:P.underlying xT=some D)(q:∀k,D≠.int k)
  {d:Option Addr}{f g:Nat}{x:Value}{new:Array Value}(hm:(Ew x).run P w=.ok m w)(s:(BK i.size m x).run P w=.ok new w)(l:f+m≤g)
  (j:match d with|some a=>(storeCells (a.add (f*i.size)) new.toList).run P w=.ok () w'|none=>w'=w):
  (Du #[sT,xT] ty #[gS d f g,x]).run P w=.ok (gS d (f+m) g) w':=by
 have o:(match D with| .int _=>true|_=>false)=false:=by
  cases D<;>first|rfl|exact eN rfl (q _)
 cases d with
 |none=>
  simp at j;subst j;simp [Du,run_underlying u,run_underlying p,sizeOf,typeInfo,hi,o,hm,l,s]
 |some a=>
  simp at j;simp [Du,run_underlying u,run_underlying p,sizeOf,typeInfo,hi,o,hm,l,s,j]
theorem jg {P:Program}{i:TypeInfo}{D:TypeDesc}(B:P.underlying sT=some (.slice e))(hi:P.info? e=some i)(C:i.zero=some z)(s:P.underlying xT=some D)(o:∀k,D≠.int k)
  {f:Option Addr}{a d:Nat}{x:Value}{g new:Array Value}(hm:(Ew x).run P w=.ok m w)(A:d<a+m)(hb:(a+m)*i.bytes≤1099511627776)(F:1≤i.bytes)
  (p:(BK i.size a (gS f a d)).run P w.drew=.ok g w.drew)(u:(BK i.size m x).run P w.drew=.ok new w.drew):
  (Du #[sT,xT] ty #[gS f a d,x]).run P w=.ok (gS (some ⟨w.heap.size,0,none⟩) (a+m) (grownCap w (a+m) d e))
   {w with heap:=w.heap.push (.cells (g++new++C4 z.cells (grownCap w (a+m) d e-(a+m))) e),drawn:=w.drawn+1}:=by
 have q:(match D with| .int _=>true|_=>false)=false:=by
  cases D<;>first|rfl|exact eN rfl (o _)
 have hn:¬(a+m≤d):=zo;have y:=growslice_fits A (show (a+m)*i.bytes≤140737488355328 by omega);have j:¬(281474976710656<Builtin.nextslicecap (a+m) d*i.bytes):=zo;have l:¬i.bytes=0:=zo;simp [Du,run_underlying B,run_underlying s,sizeOf,typeInfo,zeroValue,hi,C,q,hm,hn,j,l,Hn,newRow,grownCap];rw [p];simp [u];rfl
theorem dz (hE:EnvOk X.E X.P)(F:Sim X ρ h w)(hn:HNb (3*n) h){s x:Value}(aj:Nb (3*n) s)(az:∃d,X.E.und xT=some d∧∀k,d≠.int k)
  (f:qI X.E h n sT s x=some (.val v h' n' W)):
  ∃ρ' w',(Du #[sT,xT] ty #[conc ρ s,conc ρ x]).run X.P w=.ok (conc ρ' v) w'∧Post X ρ n h w W ρ' v h' n' w':=by
 obtain ⟨d,hd,ag⟩:=az;obtain ⟨D,K,ae⟩:=hE.und _ _ hd;have b2:∀w:World,((do pure ((←underlying xT) matches .int _):Sem Bool)).run X.P w=.ok false w:=fun w=>by
  simp [run_underlying K];cases D<;>simp_all [TD.of];exact ag _ ae.symm
 unfold qI at f;split at f
 ·rename_i e hu;have O:=hE.slice hu;split at f
  ·rename_i size bytes z base sLen sCap m A hm;obtain ⟨⟨i,u,Y,ah,a5⟩,af⟩:=hE.inf _ _ _ _ A;split at f
   ·rename_i new hnew;obtain ⟨M,a6⟩:=xQ F hn hnew;split at f
    ·rename_i hb;simp at hb;obtain ⟨an,⟨a2,b1⟩,ao⟩:=hb;have o:∀k,D≠.int k:=fun k hk=>ag k (by rw [←ae,hk];rfl);have y:=iF (P:=X.P) (ρ:=ρ) (w:=w) hm;rw [←Y] at M;split at f
     ·rename_i g;have g:=tu g;unfold tq at f;split at f
      ·simp at f;obtain ⟨rfl,rfl,rfl,rfl⟩:=f;refine ⟨ρ,w,?_,Post.refl F hn ?_⟩
       ·cases base with
        |none=>
         simp only [rN];exact rP O u K o y M g rfl
        |some a=>
         rw [z5,z5,ρ.adrS_len a (CQ sLen m) g];exact rP O u K o y M zo (by simp [storeCells])
       intro ρ1 ρ2 a1;have:=aj ρ1 ρ2 a1;cases base with
       |none=>simp
       |some a=>
        rw [z5,z5] at this ⊢;rw [ρ1.adrS_len a (CQ sLen m) g,ρ2.adrS_len a (CQ sLen m) g];simpa using this
      ·rename_i a hne;split at f
       ·rename_i h1 a0;simp at f;obtain ⟨rfl,rfl,rfl,rfl⟩:=f;obtain ⟨w',C,B⟩:=rY X.P F hn a6 a0;have ap:(a.add (sLen*size)).block=a.block:=gm _ _;rw [ap] at B;have L:∀ρ:Ren,ρ.adrS a sLen sCap=ρ.addr a:=fun ρ=>by
         by_cases hc:sCap=0
         ·obtain ⟨_,_,_,ak,_⟩:=tW a0;have aw:sLen=0:=zo;rw [aw,Nat.zero_mul] at ak;exact ρ.adrS_eq (.inl (by simpa [Cu] using ak))
         exact ρ.adrS_eq (.inr (.inr hc))
        refine ⟨ρ,w',?_,B _ ?_⟩
        ·rw [z5,z5,ρ.adrS_len a (CQ sLen m) g,L];refine rP O u K o y M zo ?_;show Sem.run _ (storeCells ((ρ.addr a).add (sLen*i.size)) _) w=_;rw [Y,←zab];simpa using C
        intro ρ1 ρ2 a1;have:=aj ρ1 ρ2 a1;rw [z5,z5,L,L] at this;rw [z5,z5,ρ1.adrS_len a (CQ sLen m) g,ρ2.adrS_len a (CQ sLen m) g,L,L];simpa using this
       cases f
      cases f
     rename_i hnle;have a4:sCap<sLen+m:=by
      apply Cw;intro g;rw [oo g] at hnle;cases hnle
     split at f
     ·rename_i old hold;rw [xZ] at f;have ai:Sim X ρ h w.drew:=⟨F.blk,F.inj⟩;obtain ⟨G,av⟩:=xQ ai hn hold;obtain ⟨I,_⟩:=xQ ai hn hnew;rw [←Y] at G I;have a3:∀v∈old++new,Nb (3*n) v:=fun v hv=>by
       rcases AY.1 hv with hv|hv
       ·exact av v hv
       exact a6 v hv
      have p:(old.map (conc ρ)).toArray++(new.map (conc ρ)).toArray=((old++new).map (conc ρ)).toArray:=by simp
      have R:(sLen+m)*i.bytes≤1099511627776:=by rw [ah];exact an
      have S:1≤i.bytes:=by rw [ah];exact ao
      unfold zbg at f;split at f
      ·obtain ⟨t',N,T⟩:=Tr.set_some none _ _ _ _ _ f;simp at N;obtain ⟨rfl,rfl,rfl,rfl⟩:=N;have C:=jg (ty:=ty) O u a5 K o y a4 R S (by simpa using G) I;rw [p] at C;obtain ⟨ρ',hv,B⟩:=oS (drawn:=w.drawn+1) F hn A a2 (grownCap_ge w (sLen+m) sCap e) a3 T;refine ⟨ρ',_,?_,B⟩;rw [hv,rN,C]
      rename_i a;split at f
      ·rename_i hgr;split at f
       ·rename_i hchk;simp at hchk;obtain ⟨a7,Z,H,ad,af⟩:=hchk;obtain ⟨t1,ay,q⟩:=Tr.set_some none _ _ _ _ _ f;obtain ⟨t',N,T⟩:=Tr.set_some none _ _ _ _ _ ay;simp at N;obtain ⟨rfl,rfl,rfl,rfl⟩:=N;have aa:ρ.adrS a sLen sCap=⟨ρ.b a.block,0,none⟩:=by rw [ρ.adrS_eq (.inl Z)];unfold Ren.addr;rw [a7,Z]
        obtain ⟨c,J,aq⟩:∃c,h.at a.block=some (.row c e)∧gP c=sCap*size:=by
         unfold zhv at H;split at H
         ·rename_i c e' hc;simp at H;exact ⟨c,by rw [hc,H.2],H.1⟩
         cases H
        have j:old=c.take (sLen*size)∧sLen*size≤gP c:=by
         simp only [wB] at hold;split at hold
         ·rename_i h0;simp at hold;subst hold;rw [h0];simp
         obtain ⟨c',x',U,a9,b0,ab,rfl⟩:=xP hold;rw [J] at U;injection U with U
         subst U;injection a9 with a9
         subst a9;rw [a7] at ab ⊢;exact ⟨gN,zo⟩
        have ac:gP new=m*size:=by
         have h1:gP old=sLen*size:=by rw [j.1];have:=j.2;simp;omega
         rw [An] at af;omega
        have a8:ones new=true:=by
         have:∀(l k:List Value),ones (l++k)=true→ones k=true:=by
          intro l k;induction l with
          |nil=>exact id
          |cons v l ih=>intro hh;cases v<;>simp [ones] at hh<;>exact ih hh
         exact this _ _ ad
        have ar:∀d,Hp.at t' d=if d=3*n+1 then some (.row (c.take (sLen*size)++new) e) else if d=a.block then none else h.at d:=fun d=>by
         show Tr.get none t' d=_;rw [T,q,j.1]
        by_cases hfit:sLen+m≤sCap+ρ.x a.block
        ·obtain ⟨ρ',w',a0,hv,B⟩:=za1 X.P F hn (need:=sLen+m) J A aq j.2 (by rw [Nat.add_sub_cancel_left];exact ac) zo hfit a4 a8 a6 ar;refine ⟨ρ',w',?_,B⟩;rw [hv,z5,aa];refine rP O u K o y M hfit ?_;show Sem.run _ (storeCells ((⟨ρ.b a.block,0,none⟩:Addr).add (sLen*i.size)) _) w=_;rw [Y,pM _ rfl];simpa using a0
        simp only [z5] at G;have C:=jg (ty:=ty) O u a5 K o y (show sCap+ρ.x a.block<sLen+m by omega) R S (by
         have:(BK i.size sLen (gS (some (ρ.adrS a sLen sCap)) sLen (sCap+ρ.x a.block))).run X.P w.drew=.ok (old.map (conc ρ)).toArray w.drew:=G;exact this) I
        rw [p] at C;have am:=(hn _ _ J).1;have ax:Sim X ρ t1 w:=⟨fun c x hc=>F.blk c x (by
          rw [show Hp.at t1 c=_ from q c] at hc;split at hc
          ·cases hc
          ·exact hc),fun c c' A V he=>F.inj c c' (by
          rw [show Hp.at t1 c=_ from q c] at A;split at A
          ·cases A
          ·exact A) (by
          rw [show Hp.at t1 c'=_ from q c'] at V;split at V
          ·cases V
          ·exact V) he⟩
        have au:HNb (3*n) t1:=fun c x hc=>hn c x (by
          rw [show Hp.at t1 c=_ from q c] at hc;split at hc
          ·cases hc
          ·exact hc)
        obtain ⟨ρ',hv,B⟩:=oS (drawn:=w.drawn+1) ax au A a2 (grownCap_ge w (sLen+m) (sCap+ρ.x a.block) e) a3 T;refine ⟨ρ',_,?_,Post.undel B (by rw [J];rfl) am q (by
         show Tr.get none t' a.block=none;rw [T,eP zo,q,eS rfl])⟩
        rw [hv,z5,C]
       cases f
      rename_i hgr;have al:=ρ.ex _ hgr;obtain ⟨t',N,T⟩:=Tr.set_some none _ _ _ _ _ f;simp at N;obtain ⟨rfl,rfl,rfl,rfl⟩:=N;simp only [z5,al,AJ] at G;have C:=jg (ty:=ty) O u a5 K o y a4 R S G I;rw [p] at C;obtain ⟨ρ',hv,B⟩:=oS (drawn:=w.drawn+1) F hn A a2 (grownCap_ge w (sLen+m) sCap e) a3 T;refine ⟨ρ',_,?_,B⟩;rw [hv,z5,al,AJ,C]
     cases f
    cases f
   cases f
  cases f
 cases f
end
end
structure EnvOk2 (E:Env)(P:Program):Prop extends EnvOk E P where
 ent:∀f fn,E.fn f=some fn→∀args w,(callFunc f args).run P w=.ok (.enter f args) w
 get:∀f fn,E.fn f=some fn→P.funcs[f]?=some fn
 ext:∀f args v,E.ext f args=some v→(∀x∈args,closed x=true)∧closed v=true∧∀w,(callFunc f args.toArray).run P w=.ok (.value v) w
 mixed:P.follows .mixedOrders=true
def Nx (v:Value)(x:Next):Prop:=x=.value v∨(x=.skip∧v=undef)
section
variable {X:Rel}{ρ:Ren}{h h':Hp}{w:World}
theorem zf1 (j:EnvOk X.E X.P)(f:Sim X ρ h w)(hn:HNb (3*n) h){p:TypeId}{d x:Value}(hc:zbx X.E h n p d x=some (.val v h' n' W)):
  ∃g,(D4 #[p,xT] ty #[conc ρ d,conc ρ x]).run X.P w=.ok (conc ρ v) g∧Post X ρ n h w W ρ v h' n' g:=by
 unfold zbx at hc;split at hc
 ·rename_i e hu;have q:=j.slice hu;split at hc
  ·rename_i size _ _ base dLen c m hi hm;have i:=iF (P:=X.P) (ρ:=ρ) (w:=w) hm;split at hc
   ·rename_i b0 _ _ hcs;obtain ⟨b,_⟩:=xQ f hn hcs;simp at hc;obtain ⟨rfl,rfl,rfl,rfl⟩:=hc;refine ⟨w,?_,Post.refl f hn Nb.int⟩;simp at b;cases b0<;>simp [D4,run_underlying q,i,z9 j hi,b,storeCells,goInt]
   ·rename_i cs a hne hcs;split at hc
    ·rename_i h1 hst;simp at hc;obtain ⟨rfl,rfl,rfl,rfl⟩:=hc;obtain ⟨b,u⟩:=xQ f hn hcs;obtain ⟨g,B,A⟩:=rY X.P f hn u hst;refine ⟨g,?_,A _ Nb.int⟩;obtain ⟨_,_,_,y,_⟩:=tW hst;have s:=ρ.adrS_eq (a:=a) (l:=dLen) (c:=c) (.inl y);simp [s,D4,run_underlying q,i,z9 j hi,b,B,goInt]
    cases hc
   cases hc
  cases hc
 cases hc
theorem zgb:∀{a:List Value} {l:List UInt8},pi a=some l→∃b:List Int,a=b.map (gZ .u8)∧l=b.map fun m=>Bd m.toNat:=by
 intro a;induction a with
 |nil=>intro l h;simp [pi] at h;subst h;exact ⟨[],rfl,rfl⟩
 |cons v a ih=>
  intro l h;unfold pi at h;split at h
  ·rename_i h0;cases h0
  ·rename_i m r h0;injection h0 with h1 h2
   subst h1 h2;split at h
   ·rename_i l' hl;simp at h;subst h;obtain ⟨b,rfl,rfl⟩:=ih hl;exact ⟨m::b,rfl,rfl⟩
   cases h
  cases h
theorem zg6 (f:EnvOk X.E X.P)(A:Sim X ρ h w)(y:HNb (3*n) h){d:TypeId}{x:Value}(b:zcr X.E t d x h=some v):
  (convert t d (conc ρ x)).run X.P w=.ok (conc ρ v) w∧Nb (3*n) v:=by
 unfold zcr at b;split at b
 ·rename_i a len c e htu hdu;have i:=f.slice htu;have j:=f.string hdu;split at b
  ·rename_i cs heu hcs;have p:=f.int heu;split at b
   ·rename_i l hl;simp at b;subst b;refine ⟨?_,Nb.string⟩;obtain ⟨g,rfl,rfl⟩:=zgb hl;obtain ⟨u,_⟩:=xQ A y hcs;cases a with
    |none=>
     have s:g=[]:=by
      simp [wB] at hcs;exact hcs
     subst s;rw [rN,run_convert_bytes_string w t d e _ _ _ i p j];simp [Conv.bytesToString];rfl
    |some a=>
     rw [z5,run_convert_bytes_string w t d e _ _ _ i p j];have q:(loadCells (ρ.adrS a len c) len).run X.P w=.ok (g.map (gZ .u8)).toArray w:=by
      simp [BK] at u;have e:(conc ρ ∘ gZ Gp)=gZ Gp:=by funext m;simp
      rw [u,e]
     rw [run_bytesToString w _ len _ g q,foldl_push_bytes];simp
   cases b
  cases b
 cases b
theorem zfc (y:EnvOk2 X.E X.P)(B:Sim X ρ h w)(hn:HNb (3*n) h){g:Operand→Value}(F:∀x,Nb (3*n) (g x))(i:effE X.E o.op g h n=some (.val v h' n' W)):
  ∃C p nx,(execOp (fun x=>conc ρ (g x)) o).run X.P w=.ok nx p∧Nx (conc C v) nx∧Post X ρ n h w W C v h' n' p:=by
 unfold effE at i;unfold execOp;split at i<;>rename_i ho<;>simp only [ho]
 ·rename_i t a x;unfold mC at i;split at i
  ·rename_i ad sz _ _ ha hi;split at i
   ·rename_i hlen;split at i
    ·rename_i h1 hst;simp at i;obtain ⟨rfl,rfl,rfl,rfl⟩:=i;obtain ⟨p,q,u⟩:=rY X.P B hn (fun v hv=>Nb.cells (F x) v hv) hst;refine ⟨ρ,p,.skip,?_,.inr ⟨rfl,gN⟩,u _ Nb.undef⟩;have N:(conc ρ (g x)).cells.size=sz:=by
      rw [qE];have:=Ay hlen;rw [yS] at this;simpa using this
     rw [←yz,yS] at q;simp [ha,Instr.storeAt,DL,storeVar,N,z9 y.toEnvOk hi,q]
    cases i
   cases i
  cases i
 ·rename_i c;obtain ⟨J,j,G⟩:=c;obtain ⟨j⟩:=j;obtain ⟨G⟩:=G;unfold qH at i;simp only at i;split at i
  ·unfold appE at i;split at i
   ·rename_i s x sT xT hsx;obtain ⟨l,m,rfl,rfl,rfl⟩:∃l m,j=[l,m]∧g l=s∧g m=x:=by
     match j,hsx with
     |[a,b],h=>simp at h;exact ⟨a,b,rfl,h.1,h.2⟩
    have L:∃d,X.E.und xT=some d∧∀k,d≠.int k:=by
     split at i
     ·cases i
     ·cases i
     rename_i h1 h2;cases hu:X.E.und xT with
     |none=>exact eN hu h2
     |some d=>exact ⟨d,rfl,fun k M=>h1 k (by rw [hu,M])⟩
    split at i
    ·cases i
    ·cases i
    obtain ⟨C,p,q,u⟩:=dz y.toEnvOk B hn (ty:=o.type) (F l) L i;refine ⟨C,p,_,?_,.inl rfl,u⟩;simp [resolve,invoke,builtin,q]
   cases i
  ·unfold cpyE at i;split at i
   ·rename_i s x sT rest hsx;obtain ⟨l,m,rfl,rfl,rfl⟩:∃l m,j=[l,m]∧g l=s∧g m=x:=by
     match j,hsx with
     |[a,b],h=>simp at h;exact ⟨a,b,rfl,h.1,h.2⟩
    obtain ⟨p,q,u⟩:=zf1 (xT:=0) (ty:=o.type) y.toEnvOk B hn i;refine ⟨ρ,p,_,?_,.inl rfl,u⟩;have e:(D4 ⟨sT::rest⟩ o.type #[conc ρ (g l),conc ρ (g m)]).run X.P w=(D4 #[sT,0] o.type #[conc ρ (g l),conc ρ (g m)]).run X.P w:=by
     unfold D4;simp
    simp [resolve,invoke,builtin,e,q]
   cases i
  ·rename_i f;unfold ze1 at i;split at i
   ·rename_i gf first cap hf
    split at i
    ·rename_i v' hv;simp at i;obtain ⟨rfl,rfl,rfl,rfl⟩:=i;obtain ⟨K,D,I⟩:=y.ext _ _ _ hv;refine ⟨ρ,w,.value v',?_,.inl (by rw [yA D]),Post.refl B hn (Nb.closed D)⟩;have H:(first.toList++(j.map g++cap.toList)).map (conc ρ)=first.toList++(j.map g++cap.toList):=by
      conv=>rhs;rw [←Eb (first.toList++(j.map g++cap.toList))]
      exact A2 fun x O=>yA (K x O)
     have A:first.map (conc ρ)++(j.map fun x=>conc ρ (g x)).toArray++cap.map (conc ρ)=(first.toList++(j.map g++cap.toList)).toArray:=by
      rw [←H];apply CR;simp
     simp only [hf,nr,resolve,Ep,Ren.fn,AX,Cm,Ax,invoke,Ft];rw [A];exact I w
    cases i
   ·cases i
   cases i
  cases i
 cases i
end
section
variable {E:Env}
def fW (M:List Nat):List Deferred:=M.map fun k=>{target:=.collected k,args:=#[]}
def Inv (X:Rel)(nt n0:Nat)(ρ0:Ren)(h0:Hp)(w0:World)(s:St)(a:Act)(w:World):Prop:=
 ∃(ρ:Ren) (M:List Nat),TR ρ s.t nt a.tmps∧(∀i,Nb (3*s.n) (nth s.t i))∧Post X ρ0 n0 h0 w0 s.w ρ undef s.h s.n w∧
  a.defers=fW M∧M.Nodup∧∀k∈M,w.heap[k]?=some (.deferred (some []))∧w0.heap.size≤k∧∀b,(s.h.at b).isSome→ρ.b b≠k
def qD:Operand→Bool
 | .const v=>closed v
 |_=>true
def yh (o:Oper):Bool:=o.op.operands.all qD&&(match o.op with| .defer _=>false| .select _ _=>false|_=>true)
section
variable {X:Rel}{ρ:Ren}{h h':Hp}{w:World}
theorem eM {t:Tr Value}{a:Act}(b:TR ρ t nt a.tmps)(hx:qD x=true):a.eval x=conc ρ (ev t x):=by
 cases x with
 |tmp i=>simp only [E5,ev];exact b.getD i
 |const v=>simp only [E5,ev];rw [show closed v=true from hx];exact (yA hx).symm
 |global g=>simp [E5,ev,Ren.addr,ρ.gl]
 |func f=>simp [E5,ev,Ren.fn]
theorem Nb.global (g:Nat):Nb m (mo (some ⟨3*g,0,none⟩)):=fun ρ a _=>by simp [Ren.addr,ρ.gl,a.gl]
theorem eJ {t:Tr Value}(a:∀i,Nb m (nth t i))(x:Operand):Nb m (ev t x):=by
 cases x with
 |tmp i=>exact a i
 |const v=>
  simp only [ev];split
  ·exact Nb.closed (by assumption)
  exact Nb.undef
 |global g=>exact Nb.global g
 |func f=>intro ρ b _;simp [ev,Ren.fn]
theorem oZ {t:Tr Value}{a:Act}(j:TR ρ t nt a.tmps)(c:yh o=true):execOp a.eval o=execOp (fun x=>conc ρ (ev t x)) o:=by
 unfold yh at c;simp at c;refine execOp_congr o (fun cs b g=>?_) (fun x p=>eM j ?_)
 ·rw [g] at c;simp at c
 obtain ⟨i,d,rfl⟩:=FN.1 p;exact c.1 i d
theorem Post.wv {ρ0:Ren}{h0:Hp}{v':Value}(p:Post X ρ0 n0 h0 w0 W ρ v h' n' w')(a:Nb (3*n') v'):Post X ρ0 n0 h0 w0 W ρ v' h' n' w':=
 ⟨p.agr,p.le,p.sim,p.nb,a,p.wlt,p.wmem,p.fr,p.size,p.os,p.tape,p.out,p.new,p.old⟩
theorem TR.put {t c:Tr Value}(b:TR ρ t nt tm)(hi:i<nt)(d:∀j,Tr.get undef c j=if j=i then v else Tr.get undef t j):TR ρ c nt (tm.setIfInBounds i (conc ρ v)):=by
 refine ⟨by simp [b.size],fun j a=>?_,fun j a=>?_⟩
 ·show _=some (conc ρ (Tr.get undef c j));rw [d];by_cases hji:j=i
  ·subst hji;simp [b.size,a]
  rw [eP hji,Db (Ne.symm hji)];exact b.at_ j a
 show Tr.get undef c j=undef;rw [d,eP zo];exact b.past j a
theorem tD {C:Ctx}{ρ0:Ren}{h0:Hp}{s:St}{d:Option Tmp}{k:St→Option β}{r:β}(q:done C s d v h' n' W k=some r):
  ∃s',k s'=some r∧∀(a:Act) (w:World) (ρ:Ren) (M:List Nat),TR ρ s.t C.nt a.tmps→(∀i,Nb (3*s.n) (nth s.t i))→Post X ρ0 C.n0 h0 w0 s.w ρ undef s.h s.n w→a.defers=fW M→M.Nodup→
   (∀k∈M,w.heap[k]?=some (.deferred (some []))∧w0.heap.size≤k∧∀b,(s.h.at b).isSome→ρ.b b≠k)→
   ∀(p:Ren) (w':World),Post X ρ s.n s.h w W p v h' n' w'→Inv X C.nt C.n0 ρ0 h0 w0 s' (a.put d (conc p v)) w':=by
 unfold done at q;rw [rJ] at q;have P:∃y,(∀(p:Ren) (tm:Array Value),TR p s.t C.nt tm→TR p y C.nt (match d with|some i=>tm.setIfInBounds i (conc p v)|none=>tm))∧(∀m,(∀i,Nb m (nth s.t i))→Nb m v→∀i,Nb m (nth y i))∧uP n' (fun n=>k {t:=y,h:=h',n:=n,w:=addW C.n0 W s.w})=some r:=by
  unfold putK at q;cases d with
  |some i=>
   simp only at q;split at q
   ·cases q
   rename_i u;have Y:i<C.nt:=by
    apply Cw;intro J;rw [oo J] at u;cases u
   obtain ⟨y,O,I⟩:=Tr.set_some undef _ _ _ _ _ q;refine ⟨y,fun p tm B=>B.put Y I,fun m hm hv j=>?_,O⟩;show Nb m (Tr.get undef y j);rw [I];split
   ·exact hv
   exact hm j
  |none=>exact ⟨s.t,fun _ _ h=>h,fun _ h _=>h,q⟩
 obtain ⟨y,S,T,F⟩:=P;rw [xm] at F;refine ⟨_,F,fun a w ρ M B L hp H N U p w' g=>⟨p,M,?_,?_,(hp.trans g).wv Nb.undef,?_,N,fun k Z=>?_⟩⟩
 ·have:=S p a.tmps (B.agr L g.agr);cases d<;>exact this
 ·exact T (3*n') (fun i=>(L i).mono (by have:=g.le;omega)) g.val
 ·cases d<;>exact H
 obtain ⟨R,m2,D⟩:=U k Z;have K:k<w.heap.size:=(Aw.1 R).1;refine ⟨?_,m2,fun b u A=>?_⟩
 ·rw [g.fr k K fun b u=>D b (g.wmem b u)];exact R
 by_cases hb3:b<3*s.n
 ·have hs:(s.h.at b).isSome:=by
   by_cases hbW:b∈W
   ·exact g.wmem b hbW
   rw [←g.old b hb3 hbW];exact u
  rw [(g.agr b hb3).1] at A;exact D b hs A
 rcases g.new b zo u with G|⟨c,V,G⟩
 ·omega
 rw [G] at A;exact D c (g.wmem c V) A
def Wd (ro:Option Nat):Fence:={Cn with round:=ro}
structure CalOk (X:Rel)(C:Cal):Prop where
 call:∀f args h n v h' n' W,C.call f args h n=some (v,h',n',W)→∀(k:Nat) (ρ:Ren) (w:World),Sim X ρ h w→HNb (3*n) h→(∀x∈args,Nb (3*n) x)→
  (callFunc f (args.map (conc ρ)).toArray).run X.P w=.ok (.enter f (args.map (conc ρ)).toArray) w∧
  CallsIn Cn k X.P f (args.map (conc ρ)).toArray w fun e w'=>∃ρ',e=.returned (conc ρ' v)∧Post X ρ n h w W ρ' v h' n' w'
 yl:∀l args h n v h' n' W,C.yl l args h n=some (v,h',n',W)→∀(k:Nat) (ρ:Ren) (w:World),Sim X ρ h w→HNb (3*n) h→(∀x∈args,Nb (3*n) x)→
  ∃f tm assign body,(Hh (ρ.b l) (args.map (conc ρ)).toArray).run X.P w=.ok (.round (ρ.b l) f tm assign body) w∧
   RoundIn Cn k X.P (ρ.b l) f tm assign body w fun e w'=>∃ρ',e=.returned (conc ρ' v)∧Post X ρ n h w W ρ' v h' n' w'
theorem uj (b:yh o=true){a:Act}{u:Option Nat}{s:Nat}{K:Act→World→Prop}{Q:Exit→Act→World→Prop}{g:Next}(q:(execOp a.eval o).run X.P w=.ok g w')(d:Nx v g)(j:K (a.put o.dst v) w'):
  o.wpIn (Wd u) s X.P a w K Q:=by
 refine ⟨fun _ _=>trivial,?_⟩;rw [Ey _ _ _ (fun c p=>by unfold yh at b;rw [p] at b;simp at b),q];rcases d with rfl|⟨rfl,rfl⟩<;>exact j
theorem Nb.first {f:Fn}{a b:Array Value}(h:Nb m (.func f a b)):(∀x∈a.toList,Nb m x)∧∀x∈b.toList,Nb m x:=by
 constructor
 ·intro x d ρ g c;have:=h ρ g c;simp at this;exact this.2.1 x (by simpa using d)
 intro x d ρ g c;have:=h ρ g c;simp at this;exact this.2.2 x (by simpa using d)
def znd:R→Prop
 | .val _ _ _ _=>True
 |_=>False
theorem zew {h:Hp}{n need cells:Nat}{c:Option Addr}{r:R}(b:zbg h n e cs need cells sz c=some r):znd r:=by
 unfold zbg at b;split at b
 ·obtain ⟨t,a,_⟩:=Tr.set_some none _ _ _ _ _ b;injection a with a;subst a;trivial
 split at b
 ·split at b
  ·obtain ⟨t,a,_⟩:=Tr.set_some none _ _ _ _ _ b;obtain ⟨t,a,_⟩:=Tr.set_some none _ _ _ _ _ a;injection a with a;subst a;trivial
  cases b
 obtain ⟨t,a,_⟩:=Tr.set_some none _ _ _ _ _ b;injection a with a;subst a;trivial
theorem zaa {ts:List TypeId}{h:Hp}{n:Nat}{r:R}(a:appE E ts args h n=some r):znd r:=by
 unfold appE at a;split at a
 ·split at a
  ·cases a
  ·cases a
  unfold qI at a;split at a
  ·split at a
   ·split at a
    ·split at a
     ·split at a
      ·unfold tq at a;split at a
       ·injection a with a;subst a;trivial
       ·split at a
        ·injection a with a;subst a;trivial
        cases a
       cases a
      split at a
      ·rw [xZ] at a;exact zew a
      cases a
     cases a
    cases a
   cases a
  cases a
 cases a
theorem am {ts:List TypeId}{h:Hp}{n:Nat}{r:R}(a:cpyE E ts args h n=some r):znd r:=by
 unfold cpyE at a;split at a
 ·unfold zbx at a;split at a
  ·split at a
   ·split at a
    ·injection a with a;subst a;trivial
    ·split at a
     ·injection a with a;subst a;trivial
     cases a
    cases a
   cases a
  cases a
 cases a
theorem bN {P:Program}{g:Operand→Value}{u:Hp}{A:Nat}(b:effE E o.op g u A=some (.enter f args)):
  (∀w:World,(execOp (fun x=>conc ρ (g x)) o).run P w=(callFunc f (args.map (conc ρ)).toArray).run P w)∧∀m,(∀x,Nb m (g x))→∀x∈args,Nb m x:=by
 unfold effE at b;split at b
 ·rename_i t a x ho;unfold mC at b;split at b
  ·split at b
   ·split at b<;>cases b
   cases b
  cases b
 ·rename_i c ho;obtain ⟨q,p,B⟩:=c;obtain ⟨p⟩:=p;unfold qH at b;simp only at b;split at b
  ·exact (zaa b).elim
  ·exact (am b).elim
  ·rename_i fo;unfold ze1 at b;split at b
   ·rename_i gf first cap hf
    split at b
    ·cases b
    injection b with b
    injection b with h1 h2
    subst h1 h2;refine ⟨fun w=>?_,fun m s x d=>?_⟩
    ·unfold execOp;simp only [ho,hf,nr,resolve,Ep,Ren.fn,AX,Cm,Ax,invoke,Ft];congr 2;apply CR;simp
    have j:=(s fo);rw [hf] at j;simp only [AY,AZ] at d;rcases d with d|⟨y,_,rfl⟩|d
    ·exact j.first.1 x d
    ·exact s y
    exact j.first.2 x d
   ·cases b
   cases b
  cases b
 cases b
theorem iT {P:Program}{g:Operand→Value}{A:Hp}{B:Nat}(d:effE E o.op g A B=some (.round l args)):
  (∀w:World,(execOp (fun x=>conc ρ (g x)) o).run P w=(Hh (ρ.b l) (args.map (conc ρ)).toArray).run P w)∧∀m,(∀x,Nb m (g x))→∀x∈args,Nb m x:=by
 unfold effE at d;split at d
 ·rename_i t a x ho;unfold mC at d;split at d
  ·split at d
   ·split at d<;>cases d
   cases d
  cases d
 ·rename_i c ho;obtain ⟨s,p,C⟩:=c;obtain ⟨p⟩:=p;unfold qH at d;simp only at d;split at d
  ·exact (zaa d).elim
  ·exact (am d).elim
  ·rename_i fo;unfold ze1 at d;split at d
   ·split at d<;>cases d
   ·rename_i l' first cap hf
    injection d with d
    injection d with h1 h2
    subst h1 h2;refine ⟨fun w=>?_,fun m u x j=>?_⟩
    ·unfold execOp;simp only [ho,hf,nr,resolve,Ep,Ren.fn,AX,Cm,Ax,invoke,Ft];congr 2;apply CR;simp
    have q:=(u fo);rw [hf] at q;simp only [AY,AZ] at j;rcases j with j|⟨y,_,rfl⟩
    ·exact q.first.1 x j
    exact u y
   cases d
  cases d
 cases d
theorem zfe {C:Ctx}{ρ0:Ren}{h0:Hp}(hE:EnvOk2 X.E X.P)(hX:C.E=X.E)(hC:CalOk X C.C){s:St}(y:yh o=true){k:St→List Nat→Option β}{r:β}(p:effK C s o k=some r):
  ∃I W,k I W=some r∧∀(J:Option Nat) (kk:Nat) (a:Act) (w:World) (ρ:Ren) (M:List Nat),TR ρ s.t C.nt a.tmps→(∀i,Nb (3*s.n) (nth s.t i))→Post X ρ0 C.n0 h0 w0 s.w ρ undef s.h s.n w→a.defers=fW M→M.Nodup→
   (∀k∈M,w.heap[k]?=some (.deferred (some []))∧w0.heap.size≤k∧∀b,(s.h.at b).isSome→ρ.b b≠k)→
   ∀(K:Act→World→Prop) (Q:Exit→Act→World→Prop),(∀a' w',Inv X C.nt C.n0 ρ0 h0 w0 I a' w'→K a' w')→o.wpIn (Wd J) kk X.P a w K Q:=by
 unfold effK at p;rw [hX] at p;split at p
 ·rename_i v h1 n1 W hv;obtain ⟨I,G,g⟩:=tD (X:=X) (ρ0:=ρ0) (h0:=h0) (w0:=w0) p;refine ⟨I,W,G,fun J kk a w ρ M H D q B F O K Q N=>?_⟩;obtain ⟨u,w',nx,T,a0,d⟩:=zfc hE q.sim q.nb (fun x=>eJ D x) hv;refine uj y (by rw [oZ H y];exact T) a0 (N _ _ (g a w ρ M H D q B F O u w' d))
 ·rename_i f args hv;split at p
  ·rename_i v h1 n1 W hcall;obtain ⟨I,G,g⟩:=tD (X:=X) (ρ0:=ρ0) (h0:=h0) (w0:=w0) p;refine ⟨I,W,G,fun J kk a w ρ M H D q B F O K Q N=>?_⟩;obtain ⟨Z,A⟩:=bN (ρ:=ρ) (P:=X.P) hv;obtain ⟨T,j⟩:=hC.call _ _ _ _ _ _ _ _ hcall (kk-1) ρ w q.sim q.nb (A _ (fun x=>eJ D x));refine ⟨fun _ _=>trivial,?_⟩;rw [Ey _ _ _ (fun c V=>by unfold yh at y;rw [V] at y;simp at y),oZ H y,Z w,T];refine ⟨fun Y=>by simp [Wd,Cn] at Y,?_⟩;have R:CallsIn (Wd J) (kk-1) X.P f (args.map (conc ρ)).toArray w fun e w'=>∃u,e=.returned (conc u v)∧Post X ρ s.n s.h w W u v h1 n1 w':=j;refine R.mono fun e w' S=>?_;obtain ⟨u,rfl,d⟩:=S;exact N _ _ (g a w ρ M H D q B F O u w' d)
  cases p
 ·rename_i l args hv;split at p
  ·rename_i v h1 n1 W hcall;obtain ⟨I,G,g⟩:=tD (X:=X) (ρ0:=ρ0) (h0:=h0) (w0:=w0) p;refine ⟨I,W,G,fun J kk a w ρ M H D q B F O K Q N=>?_⟩;obtain ⟨Z,A⟩:=iT (ρ:=ρ) (P:=X.P) hv;obtain ⟨f,tm,L,U,T,j⟩:=hC.yl _ _ _ _ _ _ _ _ hcall (kk-1) ρ w q.sim q.nb (A _ (fun x=>eJ D x));refine ⟨fun _ _=>trivial,?_⟩;rw [Ey _ _ _ (fun c V=>by unfold yh at y;rw [V] at y;simp at y),oZ H y,Z w,T];refine ⟨fun Y=>by simp [Wd,Cn] at Y,?_⟩;have R:RoundIn (Wd J) (kk-1) X.P (ρ.b l) f tm L U w fun e w'=>∃u,e=.returned (conc u v)∧Post X ρ s.n s.h w W u v h1 n1 w':=j;refine R.mono fun e w' S=>?_;obtain ⟨u,rfl,d⟩:=S;exact N _ _ (g a w ρ M H D q B F O u w' d)
  cases p
 cases p
end
end
section
variable {E:Env}{ρ:Ren}
section
variable {X:Rel}{C:Ctx}{ρ0:Ren}{h0:Hp}
def dM (X:Rel)(C:Ctx)(ρ0:Ren)(h0:Hp)(w0:World)(s:St)(o:Oper)(s':St):Prop:=
 ∀(ro:Option Nat) (kk:Nat) (a:Act) (w:World) (ρ:Ren) (M:List Nat),TR ρ s.t C.nt a.tmps→(∀i,Nb (3*s.n) (nth s.t i))→Post X ρ0 C.n0 h0 w0 s.w ρ undef s.h s.n w→a.defers=fW M→M.Nodup→
   (∀k∈M,w.heap[k]?=some (.deferred (some []))∧w0.heap.size≤k∧∀b,(s.h.at b).isSome→ρ.b b≠k)→
   ∀(K:Act→World→Prop) (Q:Exit→Act→World→Prop),(∀a' w',Inv X C.nt C.n0 ρ0 h0 w0 s' a' w'→K a' w')→o.wpIn (Wd ro) kk X.P a w K Q
theorem fN {P:Program}(d:EnvOk E P){g:Operand→Value}(i:∀x,Nb m (g x))(h:yy E o.op g=some v):Nb m v:=by
 intro ρ c f;have w:World:=default;have e:=rD d w (g':=fun x=>conc ρ (g x)) ρ (fun _=>rfl) h;have a:=rD d w (g':=fun x=>conc c (g x)) c (fun _=>rfl) h;have:(fun x=>conc c (g x))=fun x=>conc ρ (g x):=funext fun x=>i x ρ c f;rw [this,e] at a;injection a with a
 injection a with a
 exact a.symm
theorem uu {s:St}(l:yh o=true){k:St→Option β}{r:β}(B:done C s o.dst v s.h s.n [] k=some r)
  (F:∀(ρ:Ren) (w:World),Sim X ρ s.h w→HNb (3*s.n) s.h→(∀i,Nb (3*s.n) (nth s.t i))→(execOp (fun x=>conc ρ (ev s.t x)) o).run X.P w=.ok (.value (conc ρ v)) w∧Nb (3*s.n) v):
  ∃e,k e=some r∧dM X C ρ0 h0 w0 s o e:=by
 obtain ⟨e,p,d⟩:=tD (X:=X) (ρ0:=ρ0) (h0:=h0) (w0:=w0) B;refine ⟨e,p,fun H G a w ρ M q g c f j A K Q y=>?_⟩;obtain ⟨D,u⟩:=F ρ w c.sim c.nb g;exact uj l (by rw [oZ q l];exact D) (.inl rfl) (y _ _ (d a w ρ M q g c f j A ρ w (Post.refl c.sim c.nb u)))
theorem mR (A:EnvOk2 X.E X.P){s:St}(q:yh o=true){m:Mk}(hm:mkE X.E o.op (ev s.t)=some m){k:St→Option β}{r:β}(c:mkK C s o.dst m k=some r):
  ∃f,k f=some r∧dM X C ρ0 h0 w0 s o f:=by
 unfold mkK at c;rw [xZ] at c;obtain ⟨I,c,i⟩:=Tr.set_some none _ _ _ _ _ c;obtain ⟨f,u,e⟩:=tD (X:=X) (ρ0:=ρ0) (h0:=h0) (w0:=w0) c;refine ⟨f,u,fun L J a w ρ M y l g j p D K Q B=>?_⟩;obtain ⟨H,G,F,d⟩:=zkj A.toEnvOk g.sim g.nb (fun x=>eJ l x) hm i;exact uj q (by rw [oZ y q];exact F) (.inl rfl) (B _ _ (e a w ρ M y l g j p D H G d))
theorem zh7 (e:EnvOk2 X.E X.P){s:St}(c:uA X.E o.op (ev s.t) s.h=some (v,b)){w:World}(i:Sim X ρ s.h w)(f:HNb (3*s.n) s.h):
  (execOp (fun x=>conc ρ (ev s.t x)) o).run X.P w=.ok (.value (conc ρ v)) w∧Nb (3*s.n) v:=by
 unfold uA at c;split at c
 ·rename_i t a ho;split at c
  ·rename_i ad ha;split at c
   ·rename_i u hu;simp at c;obtain ⟨rfl,rfl⟩:=c;obtain ⟨g,d,_⟩:=oM e.toEnvOk i f hu;refine ⟨?_,d⟩;unfold execOp;simp [ho,ha,Instr.loadAt,DL,g]
   cases c
  cases c
 cases c
theorem zhz (c:EnvOk2 X.E X.P)(p:C.E=X.E)(y:CalOk X C.C){s:St}(e:yh o=true){k:St→Option β}{r:β}(a:opK C s o k=some r):
  ∃l,k l=some r∧dM X C ρ0 h0 w0 s o l:=by
 unfold opK at a;rw [p] at a;split at a
 ·split at a
  ·rename_i v hv;exact uu e a fun ρ w g f i=>⟨rD c.toEnvOk w ρ (fun _=>rfl) hv,fN c.toEnvOk (fun x=>eJ i x) hv⟩
  cases a
 ·split at a
  ·rename_i v b hv;exact uu e a fun ρ w g f i=>zh7 c hv g f
  cases a
 ·split at a
  ·rename_i m hm;exact mR c e hm a
  cases a
 ·obtain ⟨l,W,u,j⟩:=zfe (ρ0:=ρ0) (h0:=h0) (w0:=w0) c p y e a;exact ⟨l,u,j⟩
 split at a
 ·rename_i m hm;exact mR c e hm a
 split at a
 ·rename_i t d x hop;split at a
  ·rename_i v hv;refine uu e a fun ρ w g f i=>?_;obtain ⟨A,q⟩:=zg6 c.toEnvOk g f hv;refine ⟨?_,q⟩;unfold execOp;simp [hop,A]
  split at a
  ·rename_i v hv;exact uu e a fun ρ w g f i=>⟨rD c.toEnvOk w ρ (fun _=>rfl) hv,fN c.toEnvOk (fun x=>eJ i x) hv⟩
  cases a
 cases a
theorem zgw {s:St}{a:Act}(e:TR ρ s.t nt a.tmps)(o:Oper):Ez o (yielded ops a.tmps)=vf ops.toList s.t o:=by
 unfold Ez vf;cases hg:o.guard with
 |none=>rfl
 |some p=>
  obtain ⟨j,b⟩:=p;simp only [Dz];unfold yielded;cases hj:ops[j]? with
  |none=>simp
  |some g=>
   simp only [DS];cases hdst:g.dst with
   |none=>simp
   |some d=>
    by_cases hlt:d<nt
    ·simp only [DS,e.at_ d hlt];cases hv:nth s.t d with
     |bool c=>cases b<;>cases c<;>simp
     |pointer q=>cases q<;>simp
     |slice q _ _=>cases q<;>simp
     |_=>simp [conc]
    have f:a.tmps[d]?=none:=B1 (by rw [e.size];exact De hlt);have i:=e.past d (De hlt);simp [f,i,undef]
theorem zdn (T:EnvOk2 X.E X.P)(U:C.E=X.E)(S:CalOk X C.C)(G:∀o∈ops,yh o=true):∀(d j:Nat) (s s':St),j+d=ops.size→tM C ops.toList (ops.toList.drop j) s=some s'→
  ∀(e:Option Nat) (kk:Nat) (a:Act) (w:World) (Q:Exit→Act→World→Prop),Inv X C.nt C.n0 ρ0 h0 w0 s a w→(∀l y,Inv X C.nt C.n0 ρ0 h0 w0 s' l y→Q .normal l y)→
   wpOpsIn (Wd e) kk X.P ops Q (FR j d) a w:=by
 intro d;induction d with
 |zero=>
  intro j s s' V c e kk a w Q D q;rw [List.drop_eq_nil_of_le (by simp;omega)] at c;simp [tM] at c;subst c;exact q a w D
 |succ d ih=>
  intro j s s' V c e kk a w Q D q;have A:j<ops.size:=zo;rw [List.drop_eq_getElem_cons (by simp;omega)] at c;rw [List.range'_succ];have F:ops[j]?=some ops[j]:=CZ A;have O:ops.toList[j]'(by simp;omega)=ops[j]:=by simp
  rw [O] at c;obtain ⟨ρ,M,B,I,p,J,K,L⟩:=D;have R:=G _ (DE A);show (match ops[j]? with
   |none=>wpOpsIn (Wd e) kk X.P ops Q (FR (j+1) d) a w
   |some o=>if Ez o (yielded ops a.tmps) then o.wpIn (Wd e) kk X.P a w (wpOpsIn (Wd e) kk X.P ops Q (FR (j+1) d)) Q
     else (∀f,o.about X.P w a.eval=some f→(Wd e).fn f)∧wpOpsIn (Wd e) kk X.P ops Q (FR (j+1) d) (a.put o.dst undef) w)
  rw [F];simp only;rw [zgw B];change D1 (motive:=fun _=>Option St) (done C s ops[j].dst undef s.h s.n [] (tM C ops.toList (ops.toList.drop (j+1)))) (opK C s ops[j] (tM C ops.toList (ops.toList.drop (j+1)))) (vf ops.toList s.t ops[j])=some s' at c;cases hw:vf ops.toList s.t ops[j] with
  |true=>
   rw [hw] at c;simp only [if_true];obtain ⟨H,g,i⟩:=zhz (ρ0:=ρ0) (h0:=h0) (w0:=w0) T U S R c;exact i e kk a w ρ M B I p J K L _ _ fun l y N=>ih (j+1) H s' zo g e kk l y Q N q
  |false=>
   rw [hw] at c;simp only [A1,if_false];refine ⟨fun _ _=>trivial,?_⟩;obtain ⟨H,g,u⟩:=tD (X:=X) (ρ0:=ρ0) (h0:=h0) (w0:=w0) c;have:=u a w ρ M B I p J K L ρ w (Post.refl p.sim p.nb Nb.undef);rw [zby] at this;exact ih (j+1) H s' zo g e kk _ w Q this q
end
end
section
variable {ρ ρ':Ren}
section
variable {w:World}
theorem nU {c:Code}(J:Nat→Act→World→Prop)(h0:∀a w,¬J 0 a w)(q:∀j a w,J (j+1) a w→c.wpIn F n P (Exit.then (fun g w'=>J j g w') Q) a w)(j:Nat)(o:J j a w):(Code.loop c).wpIn F n P Q a w:=by
 intro b k s B u y;have D:∀j a w,J j a w→∃e g w',Q e g w'∧ArrivesIn (Machine.fenced P F) P (lone (b.atR a (.code c:: .inLoop c::k)) s w) b k s e g w':=by
  intro j;induction j with
  |zero=>intro a w o;exact eN o (h0 a w)
  |succ j ih=>
   intro a w o;obtain ⟨e,i,m,f,d⟩:=q j a w o b (.inLoop c::k) s B u y;cases e with
   |normal=>
    obtain ⟨H,G,I,A,p⟩:=ih i m f;exact ⟨H,G,I,A,.of_steps (StepsIn.trans d (.one (fenced_calm u y rfl) stepR_inLoop)) p⟩
   |exit id=>exact ⟨_,i,m,f,.pass (x:=.inLoop c) rfl (fun _ _=>.inl gN) d⟩
   |goto l=>exact ⟨_,i,m,f,.pass (x:=.inLoop c) rfl (fun _ _=>.inl gN) d⟩
   |ret=>exact ⟨_,i,m,f,.pass (x:=.inLoop c) rfl (fun _ _=>.inl gN) d⟩
   |panic ch=>exact ⟨_,i,m,f,.pass (x:=.inLoop c) rfl (fun _ _=>.inl gN) d⟩
   |outgrown=>exact ⟨_,i,m,f,.pass (x:=.inLoop c) rfl (fun _ _=>.inl gN) d⟩
 obtain ⟨e,g,w',f,d⟩:=D j a w o;exact ⟨e,g,w',f,.of_steps (.one (fenced_calm u y rfl) stepR_loop) d⟩
theorem wj {b:Frame}{k:List Item}{cs:List Frame}{c:Code}:step P (lone (b.atR a (.code (.scope c)::k)) cs w)=.next (lone (b.atR a (.code c:: .inScope c::k)) cs w):=
 step_lone_go (by simp [stepG,stepG.exec,Frame.atR])
theorem lQ {b:Frame}{k:List Item}{cs:List Frame}{c:Code}:step P (lone (b.atR a (.inScope c::k)) cs w)=.next (lone (b.atR a k) cs w):=
 step_lone_go (by simp [stepG,stepG.exec,Frame.atR])
theorem pm {c:Code}(h:c.wpIn F n P Q a w)(hq:∀l a w,¬Q (.goto l) a w):(Code.scope c).wpIn F n P Q a w:=by
 intro b k cs hro hb hr;have h0:(lone (b.atR a (.code (.scope c)::k)) cs w).fenced P F:=fenced_calm hb hr rfl;obtain ⟨e,a₁,w₁,hq1,harr⟩:=h b (.inScope c::k) cs hro hb hr;cases e with
 |normal=>exact ⟨.normal,a₁,w₁,hq1,.head h0 wj (StepsIn.trans harr (.one (fenced_calm hb hr rfl) lQ))⟩
 |exit id=>
  have hx:exitTo id (.inScope c::k)=exitTo id k:=by simp [exitTo]
  exact ⟨_,a₁,w₁,hq1,fun k' hk=>.head h0 wj (harr.1 k' (by rw [hx];exact hk)),
   fun hr' hk=>let ⟨k₁,h1,h2⟩:=harr.2 hr' (by rw [hx];exact hk);⟨k₁,h1,.head h0 wj h2⟩⟩
 |goto l=>exact eN hq1 (hq l a₁ w₁)
 |ret=>exact ⟨_,a₁,w₁,hq1,.of_steps (.one h0 wj) harr⟩
 |panic ch=>exact ⟨_,a₁,w₁,hq1,.of_steps (.one h0 wj) harr⟩
 |outgrown=>exact ⟨_,a₁,w₁,hq1,.of_steps (.one h0 wj) harr⟩
end
section
variable {X:Rel}{C:Ctx}{ρ0:Ren}{h0:Hp}
def MK (w0:World)(M:List Nat)(h:Hp)(ρ:Ren)(w:World):Prop:=∀k∈M,w.heap[k]?=some (.deferred (some []))∧w0.heap.size≤k∧∀b,(h.at b).isSome→ρ.b b≠k
theorem MK.step {M:List Nat}{n:Nat}{h h':Hp}{w:World}(m:MK w0 M h ρ w)(d:Post X ρ n h w W ρ' v h' n' w'):MK w0 M h' ρ' w':=by
 intro k p;obtain ⟨l,s,g⟩:=m k p;have j:k<w.heap.size:=(Aw.1 l).1;refine ⟨?_,s,fun b e f=>?_⟩
 ·rw [d.fr k j fun b e=>g b (d.wmem b e)];exact l
 by_cases hb3:b<3*n
 ·have q:(h.at b).isSome:=by
   by_cases hbW:b∈W
   ·exact d.wmem b hbW
   rw [←d.old b hb3 hbW];exact e
  rw [(d.agr b hb3).1] at f;exact g b q f
 rcases d.new b zo e with i|⟨c,o,i⟩
 ·omega
 rw [i] at f;exact g c (d.wmem c o) f
theorem Post.shut {n:Nat}{h h':Hp}{w:World}(p:Post X ρ0 n0 h0 w0 W ρ v h n w)(hb:3*n0≤b)(y:(h.at b).isSome)(L:w0.heap.size≤ρ.b b)(s:∀c,h'.at c=if c=b then none else h.at c)
  (g:∀k,k≠ρ.b b→w'.heap[k]?=w.heap[k]?)(D:w'.heap.size=w.heap.size)(B:w'.os=w.os)(G:w'.tape=w.tape)(m:w'.output=w.output):Post X ρ0 n0 h0 w0 W ρ v h' n w':=by
 have f:∀c x,h'.at c=some x→c≠b∧h.at c=some x:=fun c x d=>by
  rw [s] at d;split at d
  ·cases d
  exact ⟨by assumption,d⟩
 have e:∀c,(h'.at c).isSome→c≠b∧(h.at c).isSome:=fun c d=>by
  obtain ⟨x,H⟩:=Aq.1 d;exact ⟨(f c x H).1,by rw [(f c x H).2];rfl⟩
 refine ⟨p.agr,p.le,⟨fun c x d=>?_,fun c q l u j=>p.sim.inj c q (e c l).2 (e q u).2 j⟩,fun c x d=>p.nb c x (f c x d).2,p.val,p.wlt,p.wmem,fun k I i=>?_,by rw [D];exact p.size,B.trans p.os,G.trans p.tape,m.trans p.out,fun c d l=>p.new c d (e c l).2,fun c d i=>?_⟩
 ·obtain ⟨A,d⟩:=f c x d;obtain ⟨o,J,K⟩:=p.sim.blk c x d;refine ⟨o,?_,K⟩;rw [g _ (fun j=>A (p.sim.inj c b (by rw [d];rfl) y j))];exact J
 ·rw [g k zo];exact p.fr k I i
 rw [s,eP zo];exact p.old c d i
theorem Post.wcongr {n:Nat}{h:Hp}{w:World}{f:List Nat}(p:Post X ρ0 n0 h0 w0 W ρ v h n w)(e:∀b,b∈W↔b∈f):Post X ρ0 n0 h0 w0 f ρ v h n w:=
 ⟨p.agr,p.le,p.sim,p.nb,p.val,fun b d=>p.wlt b ((e b).2 d),fun b d=>p.wmem b ((e b).2 d),fun k m h=>p.fr k m fun b d=>h b ((e b).1 d),p.size,p.os,p.tape,p.out,
  fun b d l=>(p.new b d l).imp id fun ⟨c,i,j⟩=>⟨c,(e c).1 i,j⟩,fun b d h=>p.old b d fun g=>h ((e b).1 g)⟩
def exOf:Ex→Exit
 | .normal=>.normal
 | .exit id=>.exit id
 | .ret=>.ret
theorem fL (hE:EnvOk2 X.E X.P)(hC:CalOk X C.C){g:Operand}{ps:Array Tmp}{assign:Code}(hg:qD g=true)(hok1:X.ok assign)(hok2:X.ok body){s s':St}{x:Ex}
  (hr:qQ C (ev s.t g) ps.toList assign body s=some (x,s'))(kk:Nat)(a:Act)(w:World)(Q:Exit→Act→World→Prop)(hI:Inv X C.nt C.n0 ρ0 h0 w0 s a w)(hQ:∀a' w',Inv X C.nt C.n0 ρ0 h0 w0 s' a' w'→Q (exOf x) a' w'):
  (Code.rangeFunc g ps assign body).wpIn (Wd none) kk X.P Q a w:=by
 obtain ⟨ρ,M,ht,hn,hp,hdf,hnd,hM⟩:=hI;unfold qQ at hr;split at hr
 ·rename_i gf first cap hgv hround
  rw [xm,xm] at hr;obtain ⟨t1,hr,hg1⟩:=Tr.set_some none _ _ _ _ _ hr;obtain ⟨t2,hr,hg2⟩:=Tr.set_some none _ _ _ _ _ hr;split at hr
  ·rename_i v3 h3 n3 w3 hcall;split at hr
   ·rename_i r p tt nt' ps' as' bd' d' hl3 hd3;split at hr
    ·rename_i x' hj;obtain ⟨t4,hr,hg4⟩:=Tr.set_some none _ _ _ _ _ hr;obtain ⟨t5,hr,hg5⟩:=Tr.set_some none _ _ _ _ _ hr;simp at hr;obtain ⟨rfl,rfl⟩:=hr;have hpd:Post X ρ s.n s.h w [] (ρ.upd (3*s.n+2) w.heap.size 0 (fun _=>rfl) zo) undef t1 (s.n+1) (w.alloc (.deferred (some []))):=
      pB hp.sim hp.nb (y:=.dfr) (fun _=>rfl) zo zo zo rfl rfl rfl rfl rfl hg1 rfl trivial Nb.undef
     generalize hρ1:ρ.upd (3*s.n+2) w.heap.size 0 (fun _=>rfl) zo=ρ1 at hpd;have hb1:ρ1.b (3*s.n+2)=w.heap.size:=by rw [←hρ1];simp [Ren.upd]
     have ht1:=ht.agr hn hpd.agr;have hn1:∀i,Nb (3*(s.n+1)) (nth s.t i):=fun i=>(hn i).mono zo;refine wpIn_rangeFunc fun fn _=>?_;let w1a:=w.alloc (.deferred (some []))
     let lo:Obj:=.loop {state:=.ready,pending:=none,fn:=fn,tmps:=a.tmps,params:=ps,assign:=assign,body:=body,defers:=w.heap.size}
     have hsz1:w1a.heap.size=w.heap.size+1:=by simp [w1a]
     have hx2:gro (3*(s.n+1)+2)=false→(0:Nat)=0:=fun _=>rfl;have hm2:(3*(s.n+1)+2)%3≠0:=zo;have hagr2:=ρ1.upd_agr (3*(s.n+1)+2) w1a.heap.size 0 hx2 hm2 (m:=3*(s.n+1)) zo;have hpl:Post X ρ1 (s.n+1) t1 w1a [] (ρ1.upd (3*(s.n+1)+2) w1a.heap.size 0 hx2 hm2) undef t2 (s.n+1+1) (w1a.alloc lo):=
      pB hpd.sim hpd.nb (y:=.loop true none s.t C.nt ps.toList assign body (3*s.n+2)) hx2 hm2 zo zo rfl rfl rfl rfl rfl hg2
       ⟨fn,a.tmps,by rw [(hagr2 (3*s.n+2) zo).1,hb1];simp [lo],ht1.agr hn1 hagr2,hok1,hok2⟩ ⟨hn1,zo⟩ Nb.undef
     generalize hρ2:ρ1.upd (3*(s.n+1)+2) w1a.heap.size 0 hx2 hm2=ρ2 at hpl;have hb2:ρ2.b (3*(s.n+1)+2)=w.heap.size+1:=by rw [←hρ2];simp [Ren.upd,hsz1]
     have hfv:Nb (3*s.n) (.func (.func gf) first cap):=by rw [←hgv];exact eJ hn g
     have hag12:Agr (3*s.n) ρ ρ2:=hpd.agr.trans hpl.agr zo;have hargsN:∀y∈first.toList++([Er (.yield (3*(s.n+1)+2)) #[] #[]]++cap.toList),Nb (3*(s.n+1+1)) y:=fun y hy=>by
      simp only [AY,List.mem_singleton] at hy;rcases hy with hy|rfl|hy
      ·exact (hfv.first.1 y hy).mono zo
      ·intro r1 r2 hr;simp [Ren.fn,(hr (3*(s.n+1)+2) zo).1]
      exact (hfv.first.2 y hy).mono zo
     obtain ⟨hent,hcalls⟩:=hC.call _ _ _ _ _ _ _ _ hcall (kk-1) ρ2 (w1a.alloc lo) hpl.sim hpl.nb hargsN;have haval:a.eval g=.func (.func gf) (first.map (conc ρ)) (cap.map (conc ρ)):=by
      rw [eM ht hg,hgv];simp [Ren.fn]
     have hfirst:first.toList.map (conc ρ2)=first.toList.map (conc ρ):=Nb.map hfv.first.1 hag12
     have hcap:cap.toList.map (conc ρ2)=cap.toList.map (conc ρ):=Nb.map hfv.first.2 hag12
     have hargs:(first.map (conc ρ)++#[Er (.yield (w.heap.size+1)) #[] #[]])++cap.map (conc ρ)=((first.toList++([Er (.yield (3*(s.n+1)+2)) #[] #[]]++cap.toList)).map (conc ρ2)).toArray:=by
      apply CR;simp only [AP,hfirst,hcap];simp [Ren.fn,hb2]
     refine ⟨w.heap.size+1,[{target:=.collected w.heap.size,args:=#[]}],w1a.alloc lo,{target:=.fn (.func gf) (cap.map (conc ρ)),args:=first.map (conc ρ)++#[Er (.yield (w.heap.size+1)) #[] #[]]},w1a.alloc lo,gf,((first.toList++([Er (.yield (3*(s.n+1)+2)) #[] #[]]++cap.toList)).map (conc ρ2)).toArray,w1a.alloc lo,
      run_enterLoop_outer fn a.tmps ps assign body,?_,fun _ _=>trivial,?_,fun hd=>by simp [Wd,Cn] at hd,?_⟩
     ·simp [resolve,rangeCall,haval,Ep];rfl
     ·simp only [invoke];rw [hargs];exact hent
     have hc2:CallsIn (Wd none) (kk-1) X.P gf ((first.toList++([Er (.yield (3*(s.n+1)+2)) #[] #[]]++cap.toList)).map (conc ρ2)).toArray (w1a.alloc lo) fun e w'=>∃ρ',e=.returned (conc ρ' v3)∧Post X ρ2 (s.n+1+1) t2 (w1a.alloc lo) w3 ρ' v3 h3 n3 w':=hcalls;refine hc2.mono fun e w' hew=>?_;obtain ⟨ρ3,rfl,hpc⟩:=hew;have hb3l:ρ3.b (3*(s.n+1)+2)=w.heap.size+1:=by rw [(hpc.agr _ zo).1,hb2]
     have hb3d:ρ3.b (3*s.n+2)=w.heap.size:=by rw [(hpc.agr _ zo).1,(hpl.agr _ zo).1,hb1]
     obtain ⟨ol,hol,hrl⟩:=hpc.sim.blk _ _ hl3;obtain ⟨fn',tm',rfl,htl,_⟩:=hrl;rw [hb3l] at hol;obtain ⟨od,hod,rfl⟩:=hpc.sim.blk _ _ hd3;rw [hb3d] at hod;have hp1:=(hp.trans hpd).trans (hpl.trans hpc);have hsz0:w0.heap.size≤w.heap.size:=hp.size;have hMM:MK w0 M h3 ρ3 w':=((MK.step hM hpd).step hpl).step hpc;have hnb:(if r=true then LoopState.ready else if p.isNone=true then LoopState.busy else LoopState.done)≠.busy:=by
      cases r<;>cases p<;>simp [zib] at hj ⊢
     let lo2:Obj:=.loop {state:=.exhausted,pending:=p,fn:=fn',tmps:=tm',params:=ps'.toArray,assign:=as',body:=bd',defers:=ρ3.b d'}
     let w4:=w'.putObj (w.heap.size+1) lo2
     have hend:=run_endLoop (P:=X.P) hol hnb;have hfar4:∀k,k≠w.heap.size+1→w4.heap[k]?=w'.heap[k]?:=fun k hk=>Cf hk;have hp4:=Post.shut (h':=t4) (w':=w4) hp1 (by have:=hp.le;omega) (by rw [hl3];rfl) (by rw [hb3l];omega) hg4 (by rw [hb3l];exact hfar4) (by simp [w4]) rfl rfl rfl;have hd4:Hp.at t4 (3*s.n+2)=some .dfr:=by
      show Tr.get none t4 _=_;rw [hg4,eP zo];exact hd3
     have hp5:=Post.shut (h':=t5) (w':=w4) hp4 (by have:=hp.le;omega) (by rw [hd4];rfl) (by rw [hb3d];omega) hg5 (fun _ _=>rfl) rfl rfl rfl rfl;have hat5:∀b,(Hp.at t5 b).isSome→b≠3*s.n+2∧b≠3*(s.n+1)+2∧(h3.at b).isSome:=fun b hb=>by
      have hb':(Tr.get none t5 b).isSome:=hb;rw [hg5] at hb';split at hb'
      ·cases hb'
      rename_i h1;rw [hg4] at hb';split at hb'
      ·cases hb'
      rename_i h2;exact ⟨h1,h2,hb'⟩
     have hI':Inv X C.nt C.n0 ρ0 h0 w0 {t:=s.t,h:=t5,n:=n3,w:=addW C.n0 w3 s.w} {a with defers:=[{target:=.collected w.heap.size,args:=#[]}]++a.defers} w4:=by
      have hag3:Agr (3*s.n) ρ ρ3:=hag12.trans hpc.agr zo;have hle3:=hpc.le;refine ⟨ρ3,w.heap.size::M,ht.agr hn hag3,fun i=>(hn i).mono (by show 3*s.n≤3*n3;omega),?_,?_,?_,fun k hk=>?_⟩
      ·refine (hp5.wv Nb.undef).wcongr fun b=>?_;have:=hp.le;simp only [yN];constructor
       ·rintro ((h|⟨h,_⟩)|⟨h|⟨h,_⟩,h'⟩)
        ·exact .inl h
        ·cases h
        ·cases h
        exact .inr ⟨h,h'⟩
       rintro (h|⟨h,h'⟩)
       ·exact .inl (.inl h)
       exact .inr ⟨.inr ⟨h,zo⟩,h'⟩
      ·simp [fW,hdf]
      ·refine EQ.2 ⟨fun hk=>?_,hnd⟩;have:=(Aw.1 (hM _ hk).1).1;omega
      rcases Ad.1 hk with rfl|hk
      ·refine ⟨?_,hsz0,fun b hb he=>?_⟩
       ·rw [hfar4 _ zo];exact hod
       obtain ⟨h1,h2,h3'⟩:=hat5 b hb;exact h1 (hpc.sim.inj b (3*s.n+2) h3' (by rw [hd3];rfl) (by rw [he,hb3d]))
      obtain ⟨m1,m2,m3⟩:=hMM k hk;refine ⟨?_,m2,fun b hb=>m3 b (hat5 b hb).2.2⟩;rw [hfar4 k (fun e=>?_)]
      ·exact m1
      exact m3 (3*(s.n+1)+2) (by rw [hl3];rfl) (by rw [hb3l,e])
     refine ⟨p,w4,hend,?_⟩;have hfin:=hQ _ _ hI';unfold zib at hj;split at hj
     ·injection hj with hj
      subst hj;exact hfin
     ·injection hj with hj
      subst hj;exact wpIn_ret hfin
     ·injection hj with hj
      subst hj;exact wpIn_exit hfin
     cases hj
    cases hr
   cases hr
  cases hr
 cases hr
def xf (reg:Array Oper→Bool):Code→Bool
 | .region _ ops d=>ops.all yh&&(!d||reg ops)
 | .seq a b=>xf reg a&&xf reg b
 | .cond c a b=>qD c&&(xf reg a&&xf reg b)
 | .block _ c=>xf reg c
 | .loop c=>xf reg c
 | .scope c=>xf reg c
 | .rangeFunc f _ a b=>qD f&&(xf reg a&&xf reg b)
 |_=>true
def ui (X:Rel)(C:Ctx)(ρ0:Ren)(h0:Hp)(w0:World)(reg:Array Oper→Bool):Prop:=
 ∀(ops:Array Oper),reg ops=true→(∀o∈ops,yh o=true)→∀s s',wp C ops.toList ops.toList (xA ops.toList []) 0 ⟨s,[],[],[]⟩=some s'→
  ∀(ro:Option Nat) (kk:Nat) (a:Act) (w:World) (Q:Exit→Act→World→Prop),Inv X C.nt C.n0 ρ0 h0 w0 s a w→(∀a' w',Inv X C.nt C.n0 ρ0 h0 w0 s' a' w'→Q .normal a' w')→
   wpAnyIn (Wd ro) kk X.P .any ops Q ops.size (C0 ops.size false) a {w with drawn:=w.drawn+1}
theorem qx {reg:Array Oper→Bool}(S:EnvOk2 X.E X.P)(hX:C.E=X.E)(V:CalOk X C.C)(R:∀c,X.ok c↔xf reg c=true)(Z:ui X C ρ0 h0 w0 reg):∀(c:Code),xf reg c=true→∀(s g:St) (x:Ex),vG C c s=some (x,g)→
  ∀(G:Option Nat) (kk:Nat) (a:Act) (w:World) (Q:Exit→Act→World→Prop),(C.round=none→G=none)→Inv X C.nt C.n0 ρ0 h0 w0 s a w→(∀l a w,¬Q (.goto l) a w)→(∀I w',Inv X C.nt C.n0 ρ0 h0 w0 g I w'→Q (exOf x) I w')→
   c.wpIn (Wd G) kk X.P Q a w:=by
 intro c;induction c with
 |skip=>
  intro _ s g x h G kk a w Q u A m B;have e:some (Ex.normal,s)=some (x,g):=h;injection e with e;injection e with h1 h2;subst h1 h2
  exact wpIn_skip (B a w A)
 |label l=>
  intro _ s g x h G kk a w Q u A m B;have e:some (Ex.normal,s)=some (x,g):=h;injection e with e;injection e with h1 h2;subst h1 h2
  exact wpIn_label (B a w A)
 |exit id=>
  intro _ s g x h G kk a w Q u A m B;have e:some (Ex.exit id,s)=some (x,g):=h;injection e with e;injection e with h1 h2;subst h1 h2
  exact wpIn_exit (B a w A)
 |ret=>
  intro _ s g x h G kk a w Q u A m B;have e:some (Ex.ret,s)=some (x,g):=h;injection e with e;injection e with h1 h2;subst h1 h2
  exact wpIn_ret (B a w A)
 |goto l=>intro _ s g x h;cases (show (none:Option (Ex×St))=some (x,g) from h)
 |refuse y=>intro _ s g x h;cases (show (none:Option (Ex×St))=some (x,g) from h)
 |region id ops d=>
  intro D s g x h G kk a w Q u A m B;simp [xf] at D;have N:∀o∈ops,yh o=true:=fun o ho=>by
   obtain ⟨i,hi,rfl⟩:=FN.1 ho;exact D.1 i hi
  cases d with
  |false=>
   have e:(match tM C ops.toList ops.toList s with|some s=>some (Ex.normal,s)|none=>none)=some (x,g):=h;split at e
   ·rename_i s1 hs1;injection e with e;injection e with h1 h2;subst h1 h2
    refine wpIn_region ?_;rw [List.range_eq_range'];exact zdn S hX V N ops.size 0 s s1 zo (by simpa using hs1) G kk a w Q A B
   cases e
  |true=>
   have e:(match wp C ops.toList ops.toList (xA ops.toList []) 0 ⟨s,[],[],[]⟩ with|some s=>some (Ex.normal,s)|none=>none)=some (x,g):=h;split at e
   ·rename_i s1 hs1;injection e with e;injection e with h1 h2;subst h1 h2
    exact wpIn_region_any S.mixed (Z ops (by simpa using D.2) N s s1 hs1 G kk a w Q A B)
   cases e
 |seq p q ihp ihq=>
  intro D s g x h G kk a w Q u A m B;simp [xf] at D;have e:(match vG C p s with|some (.normal,g)=>vG C q g|r=>r)=some (x,g):=h;refine wpIn_seq ?_;split at e
  ·rename_i s1 hs1;refine ihp D.1 s s1 _ hs1 G kk a w _ u A (fun l a w=>m l a w) fun I w' H=>?_;exact ihq D.2 s1 g x e G kk I w' Q u H m B
  rename_i hne;refine ihp D.1 s g x e G kk a w _ u A (fun l a w=>m l a w) fun I w' H=>?_;cases x with
  |normal=>exact eN e (hne g)
  |exit id=>exact B I w' H
  |ret=>exact B I w' H
 |cond o p q ihp ihq=>
  intro D s g x h G kk a w Q u A m B;simp [xf] at D;have e:(match ev s.t o with| jx true=>vG C p s| jx false=>vG C q s|_=>none)=some (x,g):=h;obtain ⟨ρ,M,ht,Y⟩:=id A;have O:=eM ht D.1;split at e
  ·rename_i hv;rw [hv] at O;exact wpIn_cond_true (by simpa using O) (ihp D.2.1 s g x e G kk a w Q u A m B)
  ·rename_i hv;rw [hv] at O;exact wpIn_cond_false (by simpa using O) (ihq D.2.2 s g x e G kk a w Q u A m B)
  cases e
 |block id p ihp=>
  intro D s g x h G kk a w Q u A m B;have e:(match vG C p s with|some (.exit j,g)=>(match AD j id with|true=>some (Ex.normal,g)|false=>some (.exit j,g))|r=>r)=some (x,g):=h;refine wpIn_block ?_;split at e
  ·rename_i j s1 hs1;split at e
   ·rename_i J;have J:=Ay J;subst J;injection e with e;injection e with h1 h2;subst h1 h2
    refine ihp D s s1 _ hs1 G kk a w _ u A (fun l a w=>m l a w) fun I w' H=>?_;show (if j=j then Q .normal I w' else _);rw [eS rfl];exact B I w' H
   rename_i J;have J:=Dl J;injection e with e;injection e with h1 h2;subst h1 h2
   refine ihp D s s1 _ hs1 G kk a w _ u A (fun l a w=>m l a w) fun I w' H=>?_;show (if j=id then Q .normal I w' else Q (.exit j) I w');rw [eP J];exact B I w' H
  rename_i hne;refine ihp D s g x e G kk a w _ u A (fun l a w=>m l a w) fun I w' H=>?_;cases x with
  |normal=>exact B I w' H
  |exit j=>exact eN e (hne j g)
  |ret=>exact B I w' H
 |loop p ihp=>
  intro D s g x h G kk a w Q u A m B;have e:fZ (vG C p) C.L s=some (x,g):=h;refine nU (fun j a w=>∃s,fZ (vG C p) j s=some (x,g)∧Inv X C.nt C.n0 ρ0 h0 w0 s a w) (fun a w ⟨s,U,_⟩=>by cases U) (fun j a w ⟨s,U,A⟩=>?_) C.L ⟨s,e,A⟩;have K:(match vG C p s with|some (.normal,g)=>fZ (vG C p) j g|r=>r)=some (x,g):=U;split at K
  ·rename_i s1 hs1;exact ihp D s s1 _ hs1 G kk a w _ u A (fun l a w=>m l a w) fun I w' H=>⟨s1,K,H⟩
  rename_i hne;refine ihp D s g x K G kk a w _ u A (fun l a w=>m l a w) fun I w' H=>?_;cases x with
  |normal=>exact eN K (hne g)
  |exit id=>exact B I w' H
  |ret=>exact B I w' H
 |scope p ihp=>
  intro D s g x h G kk a w Q u A m B;exact pm (ihp D s g x h G kk a w Q u A m B) m
 |rangeFunc f ps asg bd _ _=>
  intro D s g x h G kk a w Q u A m B;simp [xf] at D;have e:qQ C (ev s.t f) ps.toList asg bd s=some (x,g):=h;have T:C.round=none:=by
   unfold qQ at e;split at e
   ·rename_i T;exact T
   cases e
  have:=u T;subst this;exact fL S V D.1 ((R _).2 D.2.1) ((R _).2 D.2.2) e kk a w Q A B
end
end
section
variable {ρ ρ':Ren}{fn:Func}
section
variable {X:Rel}{ρ0:Ren}{h0:Hp}
theorem jI:∀(args:List Value) (i:Nat) (t:Tr Value) (k:Tr Value→Option β) (r:β),oq args i t k=some r→
  ∃t',k t'=some r∧∀j,nth t' j=if i≤j∧j<i+gP args then args.getD (j-i) undef else nth t j:=by
 intro args;induction args with
 |nil=>intro i t k r h;exact ⟨t,h,fun j=>by rw [eP gN]⟩
 |cons v args ih=>
  intro i t k r h;obtain ⟨c,e,a⟩:=Tr.set_some undef _ _ _ _ _ h;obtain ⟨l,g,b⟩:=ih _ _ _ _ e;refine ⟨l,g,fun j=>?_⟩;rw [b];simp only [Ao];by_cases hj:j=i
  ·subst hj;rw [eP zo,eS zo];show Tr.get undef c j=_;rw [a];simp
  by_cases hr:i+1≤j∧j<i+1+gP args
  ·rw [eS hr,eS zo];rw [show j-i=(j-(i+1))+1 from zo];simp
  rw [eP hr,eP zo];show Tr.get undef c j=_;rw [a,eP hj]
theorem zoc (e:gP args≤nt){t:Tr Value}(b:∀j,nth t j=if 0≤j∧j<0+gP args then args.getD (j-0) undef else nth (Tr.mk undef d) j):
  TR ρ t nt ((args.map (conc ρ)).toArray++C0 (nt-(args.map (conc ρ)).toArray.size) undef):=by
 have a:∀j,nth (Tr.mk undef d) j=undef:=fun j=>Tr.get_mk undef d j;refine ⟨by simp;omega,fun i c=>?_,fun i c=>?_⟩
 ·rw [b];by_cases hl:i<gP args
  ·rw [eS zo];simp [Array.getElem?_append,hl,Ec]
  rw [eP zo,a,Array.getElem?_append_right (by simp;omega),Array.getElem?_replicate,eS (by simp;omega)];simp
 rw [b,eP zo,a]
theorem Post.turn {h:Hp}{w:World}(p:Post X ρ0 n0 h0 w0 W ρ v h n w)(B:w0.heap.size≤k)(i:∀b,(h.at b).isSome→ρ.b b≠k)
  (a:∀j,j≠k→w'.heap[j]?=w.heap[j]?)(m:w'.heap.size=w.heap.size)(l:w'.os=w.os)(q:w'.tape=w.tape)(e:w'.output=w.output):Post X ρ0 n0 h0 w0 W ρ v h n w':=by
 refine ⟨p.agr,p.le,⟨fun c x g=>?_,p.sim.inj⟩,p.nb,p.val,p.wlt,p.wmem,fun j u s=>?_,by rw [m];exact p.size,l.trans p.os,q.trans p.tape,e.trans p.out,p.new,p.old⟩
 ·obtain ⟨o,y,A⟩:=p.sim.blk c x g;exact ⟨o,by rw [a _ (i c (by rw [g];rfl))];exact y,A⟩
 rw [a j zo];exact p.fr j u s
theorem zmm (B:EnvOk2 X.E X.P){s:St}{w:World}(q:TR ρ s.t nt tm)(F:Sim X ρ s.h w)(C:HNb (3*s.n) s.h)(y:∀i,Nb (3*s.n) (nth s.t i)):∀(c:List ResultVar) (vs:List Value),resE X.E s c=some vs→
  (c.mapM (m:=Sem) fun| .tmp t=>pure (tm.getD t undef)| .cell a t=>do loadVar t (←asAddr (tm.getD a undef))).run X.P w=.ok (vs.map (conc ρ)) w∧∀v∈vs,Nb (3*s.n) v:=by
 intro c;induction c with
 |nil=>intro vs h;simp [resE] at h;subst h;simp
 |cons r c ih=>
  intro vs h;unfold resE at h;cases r with
  |tmp t=>
   simp only at h;split at h
   ·rename_i l hl;simp at h;subst h;obtain ⟨e,g⟩:=ih l hl;refine ⟨?_,fun v b=>?_⟩
    ·rw [FQ];simp only [AX,Cm,Ax];rw [e];have:=q.getD t;simp at this;simp [this]
    rcases Ad.1 b with rfl|b
    ·exact y t
    exact g v b
   cases h
  |cell a t=>
   simp only at h;split at h
   ·rename_i ad had;split at h
    ·rename_i v l b hl;simp at h;subst h;obtain ⟨e,g⟩:=ih l hl;obtain ⟨D,A,_⟩:=oM B.toEnvOk F C b;refine ⟨?_,fun u o=>?_⟩
     ·have p:=q.getD a;rw [had,zi9] at p;have j:((do loadVar t (←asAddr (tm.getD a undef)):Sem Value)).run X.P w=.ok (conc ρ v) w:=by
       rw [p];simp [asAddr,D]
      rw [FQ,AX];simp only;rw [j];simp only [AX,Cm,Ax];rw [e];simp
     rcases Ad.1 o with rfl|o
     ·exact A
     exact g u o
    cases h
   cases h
def pack (vs:List Value):Value:=match vs with|[v]=>v|vs=>.tuple ⟨vs⟩
theorem fJ (j:EnvOk2 X.E X.P){s:St}{w:World}(p:TR ρ s.t nt tm)(o:Sim X ρ s.h w)(l:HNb (3*s.n) s.h)(c:∀i,Nb (3*s.n) (nth s.t i))(h:resE X.E s fn.results.toList=some vs):
  (results fn tm).run X.P w=.ok (conc ρ (pack vs)) w∧Nb (3*s.n) (pack vs):=by
 obtain ⟨e,b⟩:=zmm j p o l c _ _ h;refine ⟨?_,?_⟩
 ·have g:(fn.results.mapM (m:=Sem) fun| .tmp t=>pure (tm.getD t undef)| .cell a t=>do loadVar t (←asAddr (tm.getD a undef))).run X.P w=.ok (vs.map (conc ρ)).toArray w:=by
   rw [Fb,Sem.run_map,e];rfl
  unfold results;rw [AX];refine Eq.trans (congrArg (fun r=>Result.andThen r _) g) ?_;simp only [Ax,Cm];match vs with
  |[]=>simp [pack]
  |[v]=>simp [pack]
  |v::u::vs=>simp [pack]
 match vs with
 |[]=>exact Nb.tuple b
 |[v]=>exact b v gN
 |v::u::vs=>exact Nb.tuple b
theorem ec {h:Hp}{R:Ending→World→Prop}
  (l:∀w',Post X ρ0 n0 h0 w0 W ρ undef h n w'→∃v,(results fn tm).run X.P w'=.ok v w'∧R (.returned v) w'):∀(M:List Nat) (w:World),Post X ρ0 n0 h0 w0 W ρ undef h n w→MK w0 M h ρ w→M.Nodup→LeavesInM Cn k X.P fn tm R (fW M) .returning w:=by
 intro M;induction M with
 |nil=>intro w c _ _;exact l w c
 |cons m M ih=>
  intro w c g b;obtain ⟨s,u,y⟩:=g m gN;have i:=(EQ.1 b).1;refine ⟨gN,.inl ⟨m,w.putObj m (.deferred none),rfl,run_takeDeferred s,ih _ (c.turn u y (fun j a=>Cf a) gN rfl rfl rfl) (fun j a=>?_) (EQ.1 b).2⟩⟩;obtain ⟨o,p,q⟩:=g j (by simp [a]);refine ⟨?_,p,q⟩;rw [Cf (fun e=>i (by rw [←e];exact a))];exact o
theorem Post.forget {h h':Hp}{w:World}{u:Value}(i:Sim X ρ h w)(j:HNb (3*n) h)(p:Post X ρ n h w [] ρ' u h' n' w')(s:Nb (3*n) v):Post X ρ n h w [] ρ v h n w':=by
 have e:∀b x,h.at b=some x→w'.heap[ρ.b b]?=w.heap[ρ.b b]?:=fun b x a=>by
  obtain ⟨o,g,_⟩:=i.blk b x a;exact p.fr _ (Aw.1 g).1 (fun c l=>eN l og)
 refine ⟨Agr.refl _ _,eU,⟨fun b x a=>?_,i.inj⟩,j,s,p.wlt,p.wmem,p.fr,p.size,p.os,p.tape,p.out,fun b a m=>?_,fun _ _ _=>rfl⟩
 ·obtain ⟨o,g,q⟩:=i.blk b x a;exact ⟨o,by rw [e b x a];exact g,q⟩
 obtain ⟨x,y⟩:=Aq.1 m;have:=(j b x y).1;omega
theorem iP:∀{vs:List Value},uQ vs=true→∀v∈vs,flat v=true:=by
 intro vs;induction vs with
 |nil=>intro _ v a;cases a
 |cons u vs ih=>
  intro h v a;unfold uQ at h;split at h
  ·rcases Ad.1 a with rfl|a
   ·assumption
   exact ih h v a
  cases h
theorem iQ (h:flat v=true):conc ρ v=v:=by
 cases v<;>simp [flat] at h<;>simp
theorem ze7 (h:flat v=true):Nb N v:=by
 cases v<;>simp [flat] at h<;>(try exact Nb.closed rfl);all_goals simp [Nb]
theorem zmt (h:uQ vs=true):Nb N (pack vs):=by
 have b:=iP h;match vs with
 |[]=>exact Nb.tuple fun v a=>eN a og
 |[v]=>exact ze7 (b v gN)
 |v::u::vs=>exact Nb.tuple fun v a=>ze7 (b v a)
theorem jY (h:uQ vs=true):conc ρ (pack vs)=pack vs:=by
 have a:=iP h;have e:vs.map (conc ρ)=vs:=by
  conv=>rhs;rw [←Eb vs]
  exact A2 fun v b=>iQ (a v b)
 match vs with
 |[]=>simp [pack]
 |[v]=>exact iQ (a v gN)
 |v::u::vs=>
  show conc ρ (.tuple ⟨v::u::vs⟩)=.tuple ⟨v::u::vs⟩;rw [la];exact congrArg Value.tuple (CR (by simpa using e))
theorem bE {reg:Array Oper→Bool}(u:EnvOk2 X.E X.P){s:Cal}(G:CalOk X s)(U:∀c,X.ok c↔xf reg c=true)(O:∀f fn c,X.E.fn f=some fn→fn.body=some c→xf reg c=true)
  (hD:∀(C:Ctx) ρ0 h0 w0,C.E=X.E→CalOk X C.C→ui X C ρ0 h0 w0 reg)
  {h h':Hp}(a:fnE X.E s L f args h n=some (v,h',n',W))(k:Nat)(ρ:Ren)(w:World)(Y:Sim X ρ h w)(hn:HNb (3*n) h)(ha:∀x∈args,Nb (3*n) x):
  (callFunc f (args.map (conc ρ)).toArray).run X.P w=.ok (.enter f (args.map (conc ρ)).toArray) w∧
  CallsIn Cn k X.P f (args.map (conc ρ)).toArray w fun e w'=>∃ρ',e=.returned (conc ρ' v)∧Post X ρ n h w W ρ' v h' n' w':=by
 unfold fnE at a;split at a
 ·rename_i fn hfnE;refine ⟨u.ent f fn hfnE _ w,?_⟩;split at a
  ·rename_i body hbody;split at a
   ·rename_i p;have p:=tu p;obtain ⟨t,a,y⟩:=jI _ _ _ _ _ a;refine callsIn_of_wp_marks (u.get f fn hfnE) hbody trivial ?_;have R:∀j,nth (Tr.mk undef X.E.dT) j=undef:=fun j=>Tr.get_mk undef _ j;have H:Inv X fn.ntmps n ρ h w {t:=t,h:=h,n:=n,w:=[]} {tmps:=(args.map (conc ρ)).toArray++C0 (fn.ntmps-(args.map (conc ρ)).toArray.size) undef,defers:=[]} w:=by
     refine ⟨ρ,[],zoc p y,fun i=>?_,Post.refl Y hn Nb.undef,rfl,E6,fun k hk=>eN hk og⟩;show Nb _ (nth t i);rw [y];split
     ·rename_i hi;have A:i<gP args:=zo;have:args.getD (i-0) undef=args[i]:=by simp [Ec,A]
      rw [this];exact ha _ (List.getElem_mem A)
     rw [R];exact Nb.undef
    have K:∀x l,vG {E:=X.E,C:=s,L:=L,round:=none,n0:=n,nt:=fn.ntmps} body {t:=t,h:=h,n:=n,w:=[]}=some (x,l)→(∀q,x≠.exit q)→
      (∀g w',Inv X fn.ntmps n ρ h w l g w'→LeavesInM Cn k X.P fn g.tmps (fun e w'=>∃ρ',e=.returned (conc ρ' v)∧Post X ρ n h w W ρ' v h' n' w') g.defers .returning w')→
      body.wpIn Cn k X.P (bodyPostM Cn k X.P fn fun e w'=>∃ρ',e=.returned (conc ρ' v)∧Post X ρ n h w W ρ' v h' n' w') {tmps:=(args.map (conc ρ)).toArray++C0 (fn.ntmps-(args.map (conc ρ)).toArray.size) undef,defers:=[]} w:=by
     intro x l F T I;refine qx (C:={E:=X.E,C:=s,L:=L,round:=none,n0:=n,nt:=fn.ntmps}) u rfl G U (hD _ _ _ _ rfl G) body (O f fn body hfnE hbody) _ l x F none k _ w _ (fun _=>rfl) H (fun _ _ _ h=>h) fun g w' m=>?_;cases x with
     |normal=>exact I g w' m
     |ret=>exact I g w' m
     |exit q=>exact eN rfl (T q)
    split at a
    ·cases a
    ·rename_i x l hexec F;refine K x l F (fun q he=>hexec q (by rw [he])) fun g w' m=>?_;obtain ⟨ρ1,M,Z,S,V,B,D,J⟩:=m;rw [B];refine ec (fun a2 b=>?_) M w' V J D;split at a
     ·rename_i vs hvs;rw [mT] at a;obtain ⟨hr,a0⟩:=fJ u Z b.sim b.nb S hvs;refine ⟨_,hr,?_⟩;split at a
      ·rename_i hpure hw;injection a with a
       injection a with h1 a
       injection a with h2 a
       injection a with h3 h4
       subst h1 h2 h3 h4;have o:uQ vs=true:=by simp at hpure;exact hpure.2
       refine ⟨ρ,congrArg Ending.returned ((jY o).trans (jY o).symm),?_⟩;have a1:l.w=[]:=hw;rw [a1] at b;exact Post.forget Y hn b (zmt o)
      injection a with a
      injection a with h1 a
      injection a with h2 a
      injection a with h3 h4
      subst h1 h2 h3 h4;exact ⟨ρ1,rfl,b.wv a0⟩
     cases a
    cases a
   cases a
  cases a
 cases a
end
end
section
variable {ρ:Ren}
section
variable {X:Rel}{ρ0:Ren}{h0:Hp}
theorem Post.put {h h':Hp}{w:World}{x y:Blk}{o:Obj}(p:Post X ρ0 n0 h0 w0 W ρ v h n w)(hb:b<3*n0)(s:(h0.at b).isSome)(hx:h.at b=some x)(j:∀c,h'.at c=if c=b then some y else h.at c)
  (I:pk X ρ b y o)(J:BNb (3*n) y):Post X ρ0 n0 h0 w0 (b::W) ρ v h' n (w.putObj (ρ.b b) o):=by
 have g:∀c,(h'.at c).isSome→(h.at c).isSome:=fun c a=>by
  rw [j] at a;split at a
  ·rename_i e;subst e;rw [hx];rfl
  exact a
 have A:(h.at b).isSome:=by rw [hx];rfl
 obtain ⟨M,C,_⟩:=p.sim.blk b x hx;have B:=(Aw.1 C).1;refine ⟨p.agr,p.le,⟨fun c z a=>?_,fun c q m u f=>p.sim.inj c q (g c m) (g q u) f⟩,fun c z a=>?_,p.val,fun c a=>?_,fun c a=>?_,fun k H i=>?_,by simpa using p.size,p.os,p.tape,p.out,fun c a m=>?_,fun c a i=>?_⟩
 ·rw [j] at a;split at a
  ·rename_i e;subst e;injection a with a
   subst a;exact ⟨o,by rw [World.putObj_heap_same B],I⟩
  rename_i hne;obtain ⟨K,D,F⟩:=p.sim.blk c z a;refine ⟨K,?_,F⟩;rw [Cf (fun f=>hne (p.sim.inj c b (by rw [a];rfl) A (by first|exact f|exact f.symm)))];exact D
 ·rw [j] at a;split at a
  ·rename_i e;injection a with a
   subst e a;exact ⟨(p.nb _ _ hx).1,J⟩
  exact p.nb c z a
 ·rcases Ad.1 a with rfl|a
  ·exact hb
  exact p.wlt c a
 ·rcases Ad.1 a with rfl|a
  ·exact s
  exact p.wmem c a
 ·rw [Cf (fun f=>i b gN (by rw [←(p.agr b hb).1];first|exact f|exact f.symm))];exact p.fr k H fun c a=>i c (by simp [a])
 ·exact (p.new c a (g c m)).imp id fun ⟨d,G,f⟩=>⟨d,by simp [G],f⟩
 rw [j,eP (fun e=>i (by simp [e]))];exact p.old c a fun h=>i (by simp [h])
theorem zhr {k:Tr Value→Option β}{r:β}:∀(f:List Tmp) (c:List Value) (t:Tr Value) (tm:Array Value),vv.setPs nt f c t k=some r→TR ρ t nt tm→(∀i,Nb N (nth t i))→(∀x∈c,Nb N x)→
  ∃a,k a=some r∧TR ρ a nt ((f.zip (c.map (conc ρ))).foldl (fun tmps (q:Tmp×Value)=>tmps.setIfInBounds q.1 q.2) tm)∧∀i,Nb N (nth a i):=by
 intro f;induction f with
 |nil=>intro c t tm h d j s;unfold vv.setPs at h;exact ⟨t,h,by simpa using d,j⟩
 |cons p f ih=>
  intro c t tm h d j s;cases c with
  |nil=>unfold vv.setPs at h;exact ⟨t,h,by simpa using d,j⟩
  |cons v c=>
   unfold vv.setPs at h;split at h
   ·cases h
   rename_i o;obtain ⟨a,h,m⟩:=Tr.set_some undef _ _ _ _ _ h;have o:¬nt≤p:=fun w=>by rw [oo w] at o;cases o
   refine ih c a (tm.setIfInBounds p (conc ρ v)) h ?_ (fun i=>?_) (fun x y=>s x (by simp [y]))
   ·refine ⟨by simpa using d.size,fun i g=>?_,fun i g=>?_⟩
    ·show _=some (conc ρ (a.get undef i));rw [m];have:=d.at_ i g;split
     ·rename_i e;subst e;simp [d.size,g]
     rename_i e;rw [Db (fun u=>e u.symm)];exact this
    show a.get undef i=undef;rw [m,eP zo];exact d.past i g
   show Nb N (a.get undef i);rw [m];split
   ·exact s v gN
   exact j i
theorem oB {reg:Array Oper→Bool}(hE:EnvOk2 X.E X.P){Cl:Cal}(hC:CalOk X Cl)(S:∀c,X.ok c↔xf reg c=true)
  (hD:∀(C:Ctx) ρ0 h0 w0,C.E=X.E→CalOk X C.C→ui X C ρ0 h0 w0 reg)
  {h h':Hp}(i:vv X.E Cl L l args h n=some (v,h',n',W))(k:Nat)(ρ:Ren)(w:World)(hs:Sim X ρ h w)(hn:HNb (3*n) h)(ha:∀x∈args,Nb (3*n) x):
  ∃f V assign body,(Hh (ρ.b l) (args.map (conc ρ)).toArray).run X.P w=.ok (.round (ρ.b l) f V assign body) w∧
   RoundIn Cn k X.P (ρ.b l) f V assign body w fun e s=>∃ρ',e=.returned (conc ρ' v)∧Post X ρ n h w W ρ' v h' n' s:=by
 unfold vv at i;split at i
 ·rename_i t0 nt0 ps0 assign0 body0 d0 hl;split at i
  ·rename_i G;have G:=Ay G;obtain ⟨o,ho,F,V,rfl,aj,a9,aa⟩:=hs.blk _ _ hl;have u:=hn _ _ hl;obtain ⟨t1,i,ai,ah⟩:=zhr (ρ:=ρ) (N:=3*n) ps0 args t0 V i aj u.2.1 ha;split at i
   ·rename_i s1 hex1;split at i
    ·rename_i t nt ps assign body d hl1;obtain ⟨t2,i,a4⟩:=Tr.set_some none _ _ _ _ _ i;split at i
     ·rename_i x s2 hex2;split at i
      ·rename_i r' p' t' nt' ps' as' bd' d' hl2;have af:Inv X nt0 n ρ h w {t:=t1,h:=h,n:=n,w:=[]} {tmps:=(ps0.zip (args.map (conc ρ))).foldl (fun tmps (q:Tmp×Value)=>tmps.setIfInBounds q.1 q.2) V,defers:=[]} w:=
        ⟨ρ,[],ai,ah,Post.refl hs hn Nb.undef,rfl,E6,fun k hk=>eN hk og⟩
       refine ⟨F,(ps0.zip (args.map (conc ρ))).foldl (fun tmps (q:Tmp×Value)=>tmps.setIfInBounds q.1 q.2) V,assign0,body0,?_,roundIn_of_wpIn trivial ?_⟩
       ·rw [run_yield ho (by simp [G])];congr 2;simp [←Gm]
       refine qx (C:={E:=X.E,C:=Cl,L:=L,round:=some l,n0:=n,nt:=nt0}) hE rfl hC S (hD _ _ _ _ rfl hC) assign0 ((S _).1 a9) _ s1 .normal hex1 (some (ρ.b l)) k _ w _ (fun e=>by cases e) af (fun _ _ _ h=>h) fun a1 w1 Y=>?_;obtain ⟨ρ1,M1,ae,a8,T,a6,a7,ag⟩:=Y;obtain ⟨o1,a5,M,U,rfl,ad,ab,ac⟩:=T.sim.blk _ _ hl1;have a3:ρ1.b l=ρ.b l:=(T.agr l u.1).1;have a0:=T.put (y:=.loop false none t nt ps assign body d) (o:=.loop {state:=.busy,pending:=none,fn:=M,tmps:=U,params:=ps.toArray,assign:=assign,body:=body,defers:=ρ1.b d}) u.1 (by rw [hl];rfl) hl1 a4 ⟨M,U,rfl,ad,ab,ac⟩ (T.nb _ _ hl1).2;rw [a3] at a5 a0;refine ⟨_,run_beginRound a5 rfl,?_⟩;have Y:Inv X nt0 n ρ h w {s1 with h:=t2,w:=l::s1.w} a1 (w1.putObj (ρ.b l) (.loop {state:=.busy,pending:=none,fn:=M,tmps:=U,params:=ps.toArray,assign:=assign,body:=body,defers:=ρ1.b d})):=by
        refine ⟨ρ1,M1,ae,a8,a0,a6,a7,fun j hj=>?_⟩;obtain ⟨j1,j2,j3⟩:=ag j hj;refine ⟨?_,j2,fun c hc=>?_⟩
        ·rw [Cf (fun e=>j3 l (by rw [hl1];rfl) (by rw [a3];first|exact e|exact e.symm))];exact j1
        apply j3;have hc:(Hp.at t2 c).isSome:=hc;rw [show Hp.at t2 c=_ from a4 c] at hc;split at hc
        ·rename_i e;subst e;rw [hl1];rfl
        exact hc
       have hw:∀(hQ:∀a' s,Inv X nt0 n ρ h w s2 a' s→roundPost X.P (ρ.b l) (fun e s=>∃ρ',e=.returned (conc ρ' v)∧Post X ρ n h w W ρ' v h' n' s) (exOf x) a' s),
         body0.wpIn (Wd (some (ρ.b l))) k X.P (roundPost X.P (ρ.b l) fun e s=>∃ρ',e=.returned (conc ρ' v)∧Post X ρ n h w W ρ' v h' n' s) a1 (w1.putObj (ρ.b l) (.loop {state:=.busy,pending:=none,fn:=M,tmps:=U,params:=ps.toArray,assign:=assign,body:=body,defers:=ρ1.b d})):=fun hQ=>by
        refine wpIn_mono (Q:=fun e a s=>(∀g,e≠.goto g)∧roundPost X.P (ρ.b l) (fun e s=>∃ρ',e=.returned (conc ρ' v)∧Post X ρ n h w W ρ' v h' n' s) e a s) ?_ fun _ _ _ hq=>hq.2;exact qx (C:={E:=X.E,C:=Cl,L:=L,round:=some l,n0:=n,nt:=nt0}) hE rfl hC S (hD _ _ _ _ rfl hC) body0 ((S _).1 aa) _ s2 x hex2 (some (ρ.b l)) k _ _ _ (fun e=>by cases e) Y (fun g _ _ hq=>hq.1 g rfl) fun a2 w2 Z=>⟨fun g=>by cases x<;>simp [exOf],hQ a2 w2 Z⟩
       refine hw fun a2 w2 Z=>?_;obtain ⟨K,M2,an,am,m,ak,al,ao⟩:=Z;obtain ⟨o2,R,A,B,rfl,J,H,I⟩:=m.sim.blk _ _ hl2;have O:K.b l=ρ.b l:=(m.agr l u.1).1;rw [O] at R;cases x with
       |normal=>
        obtain ⟨t3,i,D⟩:=Tr.set_some none _ _ _ _ _ i;simp at i;obtain ⟨rfl,rfl,rfl,rfl⟩:=i;have p:=(m.wv (v':=jx true) Nb.bool).put (y:=.loop true none t' nt' ps' as' bd' d') (o:=.loop {state:=.ready,pending:=none,fn:=A,tmps:=B,params:=ps'.toArray,assign:=as',body:=bd',defers:=K.b d'}) u.1 (by rw [hl];rfl) hl2 D ⟨A,B,rfl,J,H,I⟩ (m.nb _ _ hl2).2;rw [O] at p;exact ⟨_,_,run_endRound none R,K,gN,p⟩
       |ret=>
        obtain ⟨t3,i,D⟩:=Tr.set_some none _ _ _ _ _ i;simp at i;obtain ⟨rfl,rfl,rfl,rfl⟩:=i;have p:=(m.wv (v':=jx false) Nb.bool).put (y:=.loop false (some .ret) t' nt' ps' as' bd' d') (o:=.loop {state:=.done,pending:=some .ret,fn:=A,tmps:=B,params:=ps'.toArray,assign:=as',body:=bd',defers:=K.b d'}) u.1 (by rw [hl];rfl) hl2 D ⟨A,B,rfl,J,H,I⟩ (m.nb _ _ hl2).2;rw [O] at p;exact ⟨_,_,run_endRound (some .ret) R,K,gN,p⟩
       |exit id=>
        obtain ⟨t3,i,D⟩:=Tr.set_some none _ _ _ _ _ i;simp at i;obtain ⟨rfl,rfl,rfl,rfl⟩:=i;have p:=(m.wv (v':=jx false) Nb.bool).put (y:=.loop false (some (.exit id)) t' nt' ps' as' bd' d') (o:=.loop {state:=.done,pending:=some (.exit id),fn:=A,tmps:=B,params:=ps'.toArray,assign:=as',body:=bd',defers:=K.b d'}) u.1 (by rw [hl];rfl) hl2 D ⟨A,B,rfl,J,H,I⟩ (m.nb _ _ hl2).2;rw [O] at p;exact ⟨_,_,run_endRound (some (.exit id)) R,K,gN,p⟩
      cases i
     cases i
    cases i
   cases i
  cases i
 cases i
theorem zb5 {reg:Array Oper→Bool}(p:EnvOk2 X.E X.P)(L:Nat)(e:∀c,X.ok c↔xf reg c=true)(q:∀f fn c,X.E.fn f=some fn→fn.body=some c→xf reg c=true)
  (o:∀(C:Ctx) ρ0 h0 w0,C.E=X.E→CalOk X C.C→ui X C ρ0 h0 w0 reg):∀d,CalOk X (calN X.E L d):=by
 intro d;induction d with
 |zero=>exact ⟨fun f args h n v g n' W a=>(by cases a),fun l args h n v g n' W a=>(by cases a)⟩
 |succ d ih=>exact ⟨fun f args h n v g n' W a k ρ w m j i=>bE p ih e q o a k ρ w m j i,fun l args h n v g n' W a k ρ w m j i=>oB p ih e o a k ρ w m j i⟩
end
end
section
variable {ρ ρ':Ren}
section
variable {E:Env}
theorem jT {l:Array (Nat×Operand)}(h:∀x∈(l.toList.map (·.2)).toArray,g x=g' x):psE g l=psE g' l:=by
 unfold psE;refine A2 fun p a=>?_;rw [h p.2 (by simp;exact ⟨p.1,by simpa using a⟩)]
theorem fO {o:Op}(h:∀x∈o.operands,g x=g' x):yy E o g=yy E o g':=by
 cases o with
 |build t l=>simp only [yy];rw [jT (by simpa [CC] using h)]
 |makeFunc f a b=>
  simp only [CC,Array.mem_append] at h;have d:a.map g=a.map g':=FS fun x e=>h x (.inl e);have i:b.map g=b.map g':=FS fun x e=>h x (.inr e);cases f<;>simp [yy,d,i]
 |slice t x lo hi m=>
  simp only [CC] at h;have d:=h x gN;have i:lo.map g=lo.map g':=by cases lo<;>simp;exact h _ gN
  have j:hi.map g=hi.map g':=by cases hi<;>simp;exact h _ gN
  have p:m.map g=m.map g':=by cases m<;>simp;exact h _ gN
  cases m<;>cases lo<;>cases hi<;>simp at i j p<;>simp [yy,d,i,j,p]
 |call c=>
  simp only [CC,Call.operands] at h;have d:c.args.toList.map g=c.args.toList.map g':=A2 fun x e=>h x (by simp;exact .inr (by simpa using e));simp only [yy,d]
 |_=>first|rfl|(simp [CC] at h;simp [yy,h])
theorem zef {o:Op}(h:∀x∈o.operands,g x=g' x):mkE E o g=mkE E o g':=by
 cases o with
 |buildSlice t n l=>simp only [mkE];rw [jT (by simpa [CC] using h)]
 |_=>first|rfl|(simp [CC] at h;simp [mkE,h])
theorem uz {o:Op}{h h':Hp}(d:∀x∈o.operands,g x=g' x)(c:uA E o g h=some (v,b))(hb:h'.at b=h.at b):uA E o g' h'=some (v,b):=by
 cases o with
 |load t a=>
  simp [CC] at d;unfold uA at c ⊢;simp only at c ⊢;rw [←d];split at c
  ·rename_i ad ha;split at c
   ·rename_i u hu;simp at c;obtain ⟨rfl,rfl⟩:=c;have:oN E t h' ad=oN E t h ad:=by
     unfold oN md;rw [hb]
    rw [this,hu]
   cases c
  cases c
 |_=>cases c
theorem zbj {o:Op}{h:Hp}(d:∀x∈o.operands,g x=g' x):effE E o g h n=effE E o g' h n:=by
 cases o with
 |store t a x=>simp [CC] at d;simp [effE,d]
 |call c=>
  simp only [CC,Call.operands] at d;have e:c.args.toList.map g=c.args.toList.map g':=A2 fun x i=>d x (by simp;exact .inr (by simpa using i));simp only [effE,e];unfold qH;split
  ·rfl
  ·rfl
  ·rename_i f hf;rw [d f (by rw [hf];simp)]
  rfl
 |_=>rfl
noncomputable def only (o:Oper)(g:Operand→Value):Operand→Value:=fun x=>open Classical in if x∈o.op.operands then g x else undef
theorem oF (h:x∈o.op.operands):g x=only o g x:=by simp [only,h]
theorem oE (h:∀x∈o.op.operands,Nb m (g x))(x:Operand):Nb m (only o g x):=by
 unfold only;split
 ·exact h x (by assumption)
 exact Nb.undef
theorem vk (c:yh o=true){a:Act}(h:∀x∈o.op.operands,a.eval x=conc ρ (g x)):execOp a.eval o=execOp (fun x=>conc ρ (only o g x)) o:=by
 unfold yh at c;simp at c;refine execOp_congr o (fun f b e=>?_) (fun x d=>?_)
 ·rw [e] at c;simp at c
 rw [h x d,oF (g:=g) d]
theorem zkk (j:∀e sz bt z,E.inf e=some (sz,bt,z)→closed z=true){o:Op}{m:Mk}(hm:mkE E o g=some m):∀v∈m.c,(∀ρ,conc ρ v=v)∨∃x∈o.operands,v∈zn (g x):=by
 intro v f;cases o with
 |alloc e=>
  simp only [mkE] at hm;split at hm
  ·rename_i hz;simp at hm;subst hm;exact .inl fun ρ=>vW (j _ _ _ _ hz) ρ v f
  cases hm
 |box e x=>
  simp only [mkE] at hm;simp at hm;subst hm;exact .inr ⟨x,by simp [CC],f⟩
 |buildSlice t len l=>
  simp only [mkE] at hm;unfold sR at hm;split at hm
  ·split at hm
   ·rename_i hz;split at hm
    ·split at hm
     ·rename_i cs hcs;simp at hm;subst hm;rcases iS hcs v f with i|⟨p,s,i⟩
      ·exact .inl fun ρ=>vW (j _ _ _ _ hz) ρ v (qg i)
      simp [psE] at s;obtain ⟨a,b,q,rfl⟩:=s;exact .inr ⟨b,by simp [CC];exact ⟨a,by simpa using q⟩,i⟩
     cases hm
    cases hm
   cases hm
  cases hm
 |makeSlice t l c=>
  simp only [mkE] at hm;unfold tn at hm;split at hm
  ·split at hm
   ·rename_i hz;split at hm
    ·simp at hm;subst hm;exact .inl fun ρ=>vW (j _ _ _ _ hz) ρ v (qg f)
    cases hm
   cases hm
  cases hm
 |convert t d x=>
  simp only [mkE] at hm;unfold vI at hm;split at hm
  ·split at hm
   ·simp at hm;subst hm;simp at f;obtain ⟨b,_,rfl⟩:=f;exact .inl fun ρ=>by simp
   cases hm
  cases hm
 |_=>cases hm
end
theorem Tr.single (d v:α):∀b:Nat,∃t:Tr α,∀c,Tr.get d t c=if c=b then v else d:=by
 intro b;induction b using C1 with
 |ind b ih=>
  cases b with
  |zero=>
   refine ⟨.nd .lf v .lf,fun c=>?_⟩;cases c with
   |zero=>rfl
   |succ c=>rw [Tr.get_succ];simp [Tr.get_lf]
  |succ b=>
   obtain ⟨t,a⟩:=ih (b/2) zo;by_cases hb:b%2=0
   ·refine ⟨.nd t d .lf,fun c=>?_⟩;cases c with
    |zero=>rw [Tr.get_zero];simp
    |succ c=>
     rw [Tr.get_succ,a,Tr.get_lf];by_cases hc:c%2=0
     ·by_cases e:c=b
      ·subst e;simp [hc]
      have:¬c/2=b/2:=zo;simp [hc,e,this]
     have:¬c=b:=by rintro rfl;exact hc hb
     simp [hc,this]
   refine ⟨.nd .lf d t,fun c=>?_⟩;cases c with
   |zero=>rw [Tr.get_zero];simp
   |succ c=>
    rw [Tr.get_succ,a,Tr.get_lf];by_cases hc:c%2=0
    ·have:¬c=b:=by rintro rfl;exact hb hc
     simp [hc,this]
    by_cases e:c=b
    ·subst e;simp [hc]
    have:¬c/2=b/2:=zo;simp [hc,e,this]
section
variable {X:Rel}{ρ0:Ren}{h0:Hp}
theorem Post.agr2 {h:Hp}{w:World}(p:Post X ρ0 n0 h0 w0 W ρ v h n w)(a:Agr (3*n) ρ ρ'):Post X ρ0 n0 h0 w0 W ρ' v h n w:=by
 have e:∀c,(h.at c).isSome→c<3*n:=fun c u=>by
  obtain ⟨x,B⟩:=Aq.1 u;exact (p.nb c x B).1
 refine ⟨p.agr.trans a (by have:=p.le;omega),p.le,⟨fun b x f=>?_,fun b l d j s=>?_⟩,p.nb,p.val,p.wlt,p.wmem,p.fr,p.size,p.os,p.tape,p.out,fun b f d=>?_,p.old⟩
 ·obtain ⟨o,y,A⟩:=p.sim.blk b x f;obtain ⟨i,q⟩:=p.nb b x f;exact ⟨o,by rw [(a b i).1];exact y,A.agr q i a⟩
 ·rw [(a b (e b d)).1,(a l (e l j)).1] at s;exact p.sim.inj b l d j s
 rw [(a b (e b d)).1];exact p.new b f d
theorem Post.add {h h':Hp}{w:World}{y:Blk}{o:Obj}(p:Post X ρ0 n0 h0 w0 W ρ v h n w)(hb:3*n≤b)(A:b<3*(n+1))(j:∀c,h'.at c=if c=b then some y else h.at c)
  (F:w.heap[ρ.b b]?=some o)(G:pk X ρ b y o)(H:BNb (3*n) y)(u:w0.heap.size≤ρ.b b)(q:∀c,(h.at c).isSome→ρ.b c≠ρ.b b):Post X ρ0 n0 h0 w0 W ρ v h' (n+1) w:=by
 have d:∀c,c≠b→(h'.at c).isSome→(h.at c).isSome:=fun c B a=>by
  rw [j,eP B] at a;exact a
 refine ⟨p.agr,by have:=p.le;omega,⟨fun c z a=>?_,fun c f l s i=>?_⟩,fun c z a=>?_,p.val.mono zo,p.wlt,p.wmem,p.fr,p.size,p.os,p.tape,p.out,fun c a l=>?_,fun c a D=>?_⟩
 ·rw [j] at a;split at a
  ·rename_i e;injection a with a
   subst e a;exact ⟨o,F,G⟩
  exact p.sim.blk c z a
 ·by_cases e:c=b
  ·by_cases e':f=b
   ·rw [e,e']
   rw [e] at i;exact eN i.symm (q f (d f e' s))
  by_cases e':f=b
  ·rw [e'] at i;exact eN i (q c (d c e l))
  exact p.sim.inj c f (d c e l) (d f e' s) i
 ·rw [j] at a;split at a
  ·rename_i e;injection a with a
   subst e a;exact ⟨A,H.mono zo⟩
  obtain ⟨I,C⟩:=p.nb c z a;exact ⟨zo,C.mono zo⟩
 ·by_cases e:c=b
  ·rw [e];exact .inl u
  exact p.new c a (d c e l)
 rw [j,eP (by have:=p.le;omega)];exact p.old c a D
def zq6 (X:Rel)(s:St)(o:Oper)(v:Value)(h1:Hp)(n1:Nat)(W:List Nat):Prop:=
 ∀(ro:Option Nat) (kk:Nat) (a:Act) (w:World) (ρ:Ren),(∀x∈o.op.operands,a.eval x=conc ρ (ev s.t x))→(∀x∈o.op.operands,Nb (3*s.n) (ev s.t x))→Sim X ρ s.h w→HNb (3*s.n) s.h→
  ∀(K:Act→World→Prop) (Q:Exit→Act→World→Prop),(∀ρ' w',Post X ρ s.n s.h w W ρ' v h1 n1 w'→K (a.put o.dst (conc ρ' v)) w')→o.wpIn (Wd ro) kk X.P a w K Q
theorem znn {C:Ctx}(V:EnvOk2 X.E X.P)(Y:C.E=X.E)(T:CalOk X C.C){s:St}(p:yh o=true){k:St→List Nat→Option β}{r:β}(j:effK C s o k=some r):
  ∃v h1 n1 W,done C s o.dst v h1 n1 W (fun s=>k s W)=some r∧zq6 X s o v h1 n1 W:=by
 unfold effK at j;rw [Y,zbj (g':=only o (ev s.t)) (fun x M=>oF M)] at j;split at j
 ·rename_i v h1 n1 W hv;refine ⟨v,h1,n1,W,j,fun N A a w ρ u I L y K Q F=>?_⟩;obtain ⟨ρ',B,nx,J,U,d⟩:=zfc (ρ:=ρ) (w:=w) V L y (oE I) hv;exact uj p (by rw [vk p u];exact J) U (F _ _ d)
 ·rename_i f args hv;split at j
  ·rename_i v h1 n1 W hcall;refine ⟨v,h1,n1,W,j,fun N A a w ρ u I L y K Q F=>?_⟩;obtain ⟨M,q⟩:=bN (ρ:=ρ) (P:=X.P) hv;obtain ⟨J,i⟩:=T.call _ _ _ _ _ _ _ _ hcall (A-1) ρ w L y (q _ (oE I));refine ⟨fun _ _=>trivial,?_⟩;rw [Ey _ _ _ (fun c R=>by unfold yh at p;rw [R] at p;simp at p),vk p u,M w,J];refine ⟨fun S=>by simp [Wd,Cn] at S,?_⟩;have G:CallsIn (Wd N) (A-1) X.P f (args.map (conc ρ)).toArray w fun e B=>∃ρ',e=.returned (conc ρ' v)∧Post X ρ s.n s.h w W ρ' v h1 n1 B:=i;refine G.mono fun e B H=>?_;obtain ⟨ρ',rfl,d⟩:=H;exact F _ _ d
  cases j
 ·rename_i l args hv;split at j
  ·rename_i v h1 n1 W hcall;refine ⟨v,h1,n1,W,j,fun N A a w ρ u I L y K Q F=>?_⟩;obtain ⟨M,q⟩:=iT (ρ:=ρ) (P:=X.P) hv;obtain ⟨f,Z,D,O,J,i⟩:=T.yl _ _ _ _ _ _ _ _ hcall (A-1) ρ w L y (q _ (oE I));refine ⟨fun _ _=>trivial,?_⟩;rw [Ey _ _ _ (fun c R=>by unfold yh at p;rw [R] at p;simp at p),vk p u,M w,J];refine ⟨fun S=>by simp [Wd,Cn] at S,?_⟩;have G:RoundIn (Wd N) (A-1) X.P (ρ.b l) f Z D O w fun e B=>∃ρ',e=.returned (conc ρ' v)∧Post X ρ s.n s.h w W ρ' v h1 n1 B:=i;refine G.mono fun e B H=>?_;obtain ⟨ρ',rfl,d⟩:=H;exact F _ _ d
  cases j
 cases j
theorem uU {C:Ctx}{s:St}{d:Option Tmp}{h':Hp}{k:St→Option β}{r:β}(a:done C s d v h' n' W k=some r):
  ∃c,k {t:=c,h:=h',n:=n',w:=addW C.n0 W s.w}=some r∧(∀j,nth c j=if d=some j then v else nth s.t j)∧∀i,d=some i→i<C.nt:=by
 unfold done at a;rw [rJ] at a;unfold putK at a;cases d with
 |some i=>
  simp only at a;split at a
  ·cases a
  rename_i hb;have l:i<C.nt:=by
   apply Cw;intro q;rw [oo q] at hb;cases hb
  obtain ⟨c,f,u⟩:=Tr.set_some undef _ _ _ _ _ a;rw [xm] at f;refine ⟨c,f,fun j=>?_,fun j p=>by injection p with p;subst p;exact l⟩;show Tr.get undef c j=_;rw [u];by_cases e:j=i
  ·subst e;simp
  rw [eP e,eP (by simp;exact fun h=>e h.symm)]
 |none=>
  simp only [xm] at a;exact ⟨s.t,a,fun j=>by simp,fun i l=>by cases l⟩
end
end
structure Quiet (d d':Dr):Prop where
 h:d'.s.h=d.s.h
 n:d'.s.n=d.s.n
 w:d'.s.w=d.s.w
 al:d'.al=d.al
 ef:d'.ef=d.ef
inductive Stp (X:Rel) (C:Ctx) (ops:List Oper) (i m:Nat) (o:Oper) (d d':Dr) (v:Value):Prop
 |skip (hw:vf ops d.s.t o=false) (hv:v=undef) (hs:Quiet d d') (hl:d'.ld=d.ld)
 |pure (hw:vf ops d.s.t o=true) (hc2:cls o.op≠2) (hc3:cls o.op≠3) (hp:yy C.E o.op (ev d.s.t)=some v) (hs:Quiet d d') (hl:d'.ld=d.ld)
 |load (hw:vf ops d.s.t o=true) (hc:cls o.op=1) (u b:Nat) (h:Hp) (hr:vQ m d.ef i d.s.h=(u,h)) (hp:uA C.E o.op (ev d.s.t) h=some (v,b)) (h1:qS u b d.ef=true) (h2:qn m b d.al=true) (hs:Quiet d d') (hl:d'.ld=(i,b)::d.ld)
 |make (hw:vf ops d.s.t o=true) (hc:cls o.op=2) (k:Mk) (hm:mkE C.E o.op (ev d.s.t)=some k) (hv:v=k.val d.s.n) (hh:∀c,d'.s.h.at c=if c=k.name d.s.n then some (.row k.c k.e) else d.s.h.at c)
   (hn:d'.s.n=d.s.n+1) (hW:d'.s.w=d.s.w) (ha:d'.al=(i,k.name d.s.n)::d.al) (hl:d'.ld=d.ld) (he:d'.ef=d.ef)
 |eff (hw:vf ops d.s.t o=true) (hc:cls o.op=3) (W:List Nat) (hE:zq6 X d.s o v d'.s.h d'.s.n W) (h1:gu m d.ef=true) (h2:xJ m d.al=true) (h3:ya m W d.ld=true) (h4:d.s.n≤d'.s.n)
   (hW:d'.s.w=addW C.n0 W d.s.w) (ha:d'.al=d.al) (hl:d'.ld=d.ld) (he:d'.ef=(i,d.s.h,W)::d.ef)
structure StT (C:Ctx)(o:Oper)(d d':Dr)(v:Value):Prop where
 t:∀j,nth d'.s.t j=if o.dst=some j then v else nth d.s.t j
 lt:∀k,o.dst=some k→k<C.nt
section
variable {X:Rel}{C:Ctx}
theorem zfh (y:EnvOk2 X.E X.P)(A:C.E=X.E)(w:CalOk X C.C){ops:List Oper}(B:yh o=true){d:Dr}(f:vf ops d.s.t o=true){k:Dr→Option β}{r:β}(a:zfi C i m o d k=some r):
  ∃d' v,k d'=some r∧Stp X C ops i m o d d' v∧StT C o d d' v:=by
 unfold zfi at a;split at a
 ·rename_i hc;generalize hr:vQ m d.ef i d.s.h=uh at a;obtain ⟨u,h⟩:=uh;simp only at a;split at a
  ·rename_i v b hl;split at a
   ·rename_i hok;simp only [AA] at hok;obtain ⟨p,a,e,c⟩:=uU a;exact ⟨_,v,a,.load f hc u b h hr hl hok.1 hok.2 ⟨rfl,rfl,rfl,rfl,rfl⟩ rfl,⟨e,c⟩⟩
   cases a
  cases a
 ·rename_i hc;split at a
  ·rename_i mk hm;unfold mkK at a;rw [xZ] at a;obtain ⟨q,a,l⟩:=Tr.set_some none _ _ _ _ _ a;obtain ⟨p,a,e,c⟩:=uU a;exact ⟨_,_,a,.make f hc mk hm rfl l rfl rfl rfl rfl rfl,⟨e,c⟩⟩
  cases a
 ·rename_i hc;split at a
  ·rename_i hok;simp only [AA] at hok;obtain ⟨v,q,D,W,a,g⟩:=znn y A w B a;obtain ⟨p,a,e,c⟩:=uU a;simp only at a;split at a
   ·rename_i hok2;simp only [AA] at hok2;exact ⟨_,v,a,.eff f hc W g hok.1 hok.2 hok2.1 (tu hok2.2) rfl rfl rfl rfl,⟨e,c⟩⟩
   cases a
  cases a
 rename_i q h2 h3;split at a
 ·rename_i v hp;obtain ⟨p,a,e,c⟩:=uU a;exact ⟨_,v,a,.pure f h2 h3 hp ⟨rfl,rfl,rfl,rfl,rfl⟩ rfl,⟨e,c⟩⟩
 cases a
theorem ziu (K:EnvOk2 X.E X.P)(L:C.E=X.E)(J:CalOk X C.C){ops:List Oper}:∀(l:List Oper) (ms:List Nat) (i:Nat) (d:Dr) (s':St),(∀o∈l,yh o=true)→wp C ops l ms i d=some s'→
  ∃(D:Nat→Dr) (V:Nat→Value),D 0=d∧(D (gP l)).s=s'∧∀j (c:j<gP l),∃m,ms[j]?=some m∧Stp X C ops (i+j) m l[j] (D j) (D (j+1)) (V j)∧StT C l[j] (D j) (D (j+1)) (V j):=by
 intro l;induction l with
 |nil=>
  intro ms i d s' _ h;unfold wp at h;injection h with h
  exact ⟨fun _=>d,fun _=>undef,rfl,h,fun j c=>by simp at c⟩
 |cons o l ih=>
  intro ms i d s' y h;cases ms with
  |nil=>cases h
  |cons m ms=>
   have B:∃a v,wp C ops l ms (i+1) a=some s'∧Stp X C ops i m o d a v∧StT C o d a v:=by
    unfold wp at h;split at h
    ·rename_i hw;exact zfh K L J (y o gN) hw h
    rename_i hw;obtain ⟨R,f,N,p⟩:=uU h;exact ⟨_,undef,f,.skip hw rfl ⟨rfl,rfl,rfl,rfl,rfl⟩ rfl,⟨N,p⟩⟩
   obtain ⟨a,v,f,F,G⟩:=B;obtain ⟨D,V,e,g,A⟩:=ih ms (i+1) a s' (fun q M=>y q (by simp [M])) f;refine ⟨fun|0=>d|j+1=>D j,fun|0=>v|j+1=>V j,rfl,g,fun j c=>?_⟩;cases j with
   |zero=>exact ⟨m,rfl,by simpa [e] using F,by simpa [e] using G⟩
   |succ j=>
    obtain ⟨O,w,H,I⟩:=A j (by simpa using c);refine ⟨O,by simpa using w,?_,by simpa using I⟩;have:i+(j+1)=i+1+j:=zo;rw [this];simpa using H
end
theorem bc:∀{W:List Nat},memN b W=false→b∉W:=by
 intro W;induction W with
 |nil=>intro _ h;cases h
 |cons c W ih=>
  intro h a;unfold memN at h;split at h
  ·cases h
  rename_i hc;rcases Ad.1 a with rfl|a
  ·exact Dl hc rfl
  exact ih h a
theorem fQ:∀{l:List (Nat×Nat)},ya m W l=true→∀i b,(i,b)∈l→m.testBit i=true∨b∉W:=by
 intro l;induction l with
 |nil=>intro _ i b h;cases h
 |cons p l ih=>
  intro h i b a;obtain ⟨j,c⟩:=p;unfold ya at h;split at h
  ·rename_i hc;rcases Ad.1 a with e|a
   ·injection e with e1 e2
    subst e1 e2;simp only [D6,BT] at hc;exact hc.imp id bc
   exact ih h i b a
  cases h
theorem zd7:∀{l:List (Nat×Nat)},qn m b l=true→∀j c,(j,c)∈l→m.testBit j=true∨b≠c:=by
 intro l;induction l with
 |nil=>intro _ i b h;cases h
 |cons p l ih=>
  intro h i c a;obtain ⟨j,d⟩:=p;unfold qn at h;split at h
  ·rename_i hc;rcases Ad.1 a with e|a
   ·injection e with e1 e2
    subst e1 e2;simp only [D6,BT] at hc;exact hc.imp id Dl
   exact ih h i c a
  cases h
theorem za4:∀{l:List (Nat×Hp×List Nat)},qS u b l=true→∀e g W,(e,g,W)∈l→u≤e→b∉W:=by
 intro l;induction l with
 |nil=>intro _ e g W h;cases h
 |cons p l ih=>
  intro h e g W c d;obtain ⟨s,v,f⟩:=p;unfold qS at h;split at h
  ·rename_i a;rcases Ad.1 c with q|c
   ·injection q with e1 q
    injection q with e2 e3
    subst e1 e2 e3;simp only [D6,BT] at a;rcases a with a|a
    ·exact eN (tu a) zo
    exact bc a
   exact ih h e g W c d
  cases h
theorem fK:∀(l:List (Nat×Hp×List Nat)) (u0:Nat) (g0:Hp) (u:Nat) (g:Hp),vQ m l u0 g0=(u,g)→l.Pairwise (fun x y=>y.1<x.1)→
  (∀x∈l,x.1<u→m.testBit x.1=true)∧((u=u0∧g=g0)∨∃W,(u,g,W)∈l):=by
 intro l;induction l with
 |nil=>
  intro u0 g0 u g h _;unfold vQ at h;injection h with q f
  exact ⟨fun x a=>eN a og,.inl ⟨q.symm,f.symm⟩⟩
 |cons p l ih=>
  intro u0 g0 u g h B;obtain ⟨e,A,W⟩:=p;obtain ⟨w,v⟩:=Gq.1 B;unfold vQ at h;split at h
  ·rename_i hb;obtain ⟨q,f⟩:=ih u0 g0 u g h v;refine ⟨fun x a d=>?_,f.imp id fun ⟨s,c⟩=>⟨s,by simp [c]⟩⟩;rcases Ad.1 a with rfl|a
   ·exact hb
   exact q x a d
  obtain ⟨q,f⟩:=ih e A u g h v;refine ⟨fun x a d=>?_,.inr ?_⟩
  ·rcases Ad.1 a with rfl|a
   ·exfalso;rcases f with ⟨rfl,_⟩|⟨s,c⟩
    ·exact EA _ d
    have:=w _ c;simp only at this d;omega
   exact q x a d
  rcases f with ⟨rfl,rfl⟩|⟨s,c⟩
  ·exact ⟨W,gN⟩
  exact ⟨s,by simp [c]⟩
theorem zgm:∀{l:List (Nat×Nat)},xJ m l=true→∀j c,(j,c)∈l→m.testBit j=true:=by
 intro l;induction l with
 |nil=>intro _ i b h;cases h
 |cons p l ih=>
  intro h i c a;obtain ⟨j,d⟩:=p;unfold xJ at h;split at h
  ·rename_i hc;rcases Ad.1 a with e|a
   ·injection e with e1 e2
    subst e1 e2;exact hc
   exact ih h i c a
  cases h
theorem zgk:∀{l:List (Nat×Hp×List Nat)},gu m l=true→∀e x,(e,x)∈l→m.testBit e=true:=by
 intro l;induction l with
 |nil=>intro _ e x h;cases h
 |cons p l ih=>
  intro h i c a;obtain ⟨j,d⟩:=p;unfold gu at h;split at h
  ·rename_i hc;rcases Ad.1 a with e|a
   ·injection e with e1 e2
    subst e1 e2;exact hc
   exact ih h i c a
  cases h
theorem iB:∀(l:List Oper) (acc:List Nat) (i:Nat),i<gP acc→(xA l acc)[i]?=acc[i]?:=by
 intro l;induction l with
 |nil=>intro acc i _;rfl
 |cons o l ih=>
  intro acc i a;unfold xA;rw [ih _ i (by simp;omega),AG a]
theorem zim {acc:List Nat}:∀(a:List Edge) (s:Nat),(a.foldl (fun s e=>match Bt .any e with|true=>s|||2^e.on|||acc.getD e.on 0|false=>s) s).testBit j=true→
  s.testBit j=true∨∃e∈a,Bt .any e=true∧(e.on=j∨(acc.getD e.on 0).testBit j=true):=by
 intro a;induction a with
 |nil=>intro s h;exact .inl h
 |cons e a ih=>
  intro s h;rw [EP] at h;rcases ih _ h with h|⟨d,c,f,g⟩
  ·split at h
   ·rename_i hb;simp only [Nat.testBit_or,D6,Nat.testBit_two_pow,decide_eq_true_eq] at h;rcases h with (h|h)|h
    ·exact .inl h
    ·exact .inr ⟨e,gN,hb,.inl h⟩
    exact .inr ⟨e,gN,hb,.inr h⟩
   exact .inl h
  exact .inr ⟨d,by simp [c],f,g⟩
theorem zeh:∀(l:List Oper) (acc:List Nat) (i m j:Nat),gP acc≤i→(xA l acc)[i]?=some m→m.testBit j=true→
  ∃o,l[i-gP acc]?=some o∧∃e∈o.after,Bt .any e=true∧(e.on=j∨(e.on<i∧∃m',(xA l acc)[e.on]?=some m'∧m'.testBit j=true)):=by
 intro l;induction l with
 |nil=>
  intro acc i m j s a;have:(xA [] acc)[i]?=none:=Ae s;rw [this] at a;cases a
 |cons o l ih=>
  intro acc i m j s a v;unfold xA at a;by_cases g:i=gP acc
  ·subst g;rw [iB _ _ _ gN,List.getElem?_append_right eU,Nat.sub_self,List.getElem?_cons_zero] at a;refine ⟨o,gN,?_⟩;injection a with a
   subst a;have:=zim (acc:=acc) (j:=j) o.after.toList 0 v;rcases this with h|⟨e,g,f,d⟩
   ·simp at h
   refine ⟨e,by simpa using g,f,d.imp id fun d=>?_⟩;have c:e.on<gP acc:=by
    apply Cw;intro w;simp [Ec,Ae w] at d
   refine ⟨c,acc[e.on],?_,?_⟩
   ·rw [xA,iB _ _ _ (by simp;omega),AG c,kF c]
   simpa [Ec,c] using d
  obtain ⟨q,y,e,p,f,d⟩:=ih _ i m j (by simp;omega) a v;refine ⟨q,?_,e,p,f,d⟩;have:i-gP acc=(i-(gP acc+1))+1:=zo;rw [this];simpa using y
def zne (k:Nat):Operand→Bool
 | .tmp t=>AD t k
 |_=>false
def ul (ops:List Oper)(o:Oper)(k:Nat):Bool:=
 (match o.dst with|some d=>AD d k|none=>false)||
 (o.op.operands.toList.any (zne k)||
 (match o.guard with|some (j,_)=>(match ops[j]? with|some g=>(match g.dst with|some d=>AD d k|none=>false)|none=>false)|none=>false))
def bP:List Oper→Nat→Bool
 |[],_=>true
 |o::r,i=>o.after.toList.all (fun e=> !Region.binds .any e||Eh e.on i)&&bP r (i+1)
def pairOk (ops:List Oper)(ms:List Nat)(i k:Nat):List Oper→Nat→Bool
 |[],_=>true
 |o::r,j=>(AD i j||(!ul ops o k||(match Eh i j with|true=>(ms.getD j 0).testBit i|false=>(ms.getD i 0).testBit j)))&&pairOk ops ms i k r (j+1)
def zg5 (ops:List Oper)(ms:List Nat):List Oper→Nat→Bool
 |[],_=>true
 |o::r,i=>(match o.dst with|some k=>pairOk ops ms i k ops 0|none=>true)&&zg5 ops ms r (i+1)
def regOk (ops:Array Oper):Bool:=bP ops.toList 0&&zg5 ops.toList (xA ops.toList []) ops.toList 0
theorem da:∀(l:List Oper) (i:Nat),bP l i=true→∀j o,l[j]?=some o→∀e∈o.after,Bt .any e=true→e.on<i+j:=by
 intro l;induction l with
 |nil=>intro i _ j o h;simp at h
 |cons q l ih=>
  intro i h j o a e f d;unfold bP at h;simp only [AA,BP] at h;cases j with
  |zero=>
   simp at a;subst a;have:=h.1 e (by simpa using f);simp only [d,Dx,Bool.false_or] at this;have:=tu this;omega
  |succ j=>
   have:=ih (i+1) h.2 j o (by simpa using a) e f d;omega
theorem fP {ops:List Oper}{g:List Nat}:∀(l:List Oper) (j0:Nat),pairOk ops g i k l j0=true→∀j o,l[j]?=some o→i≠j0+j→ul ops o k=true→
  (i<j0+j→(g.getD (j0+j) 0).testBit i=true)∧(j0+j<i→(g.getD i 0).testBit (j0+j)=true):=by
 intro l;induction l with
 |nil=>intro j0 _ j o h;simp at h
 |cons q l ih=>
  intro j0 h j o f m p;unfold pairOk at h;simp only [AA,D6,BT] at h;cases j with
  |zero=>
   simp at f;subst f;rcases h.1 with a|a|a
   ·exact eN (Ay a) m
   ·rw [p] at a;cases a
   refine ⟨fun d=>?_,fun d=>?_⟩
   ·rw [show Eh i j0=true from oo d] at a;exact a
   have:Eh i j0=false:=by
    cases hb:Eh i j0 with
    |false=>rfl
    |true=>have:=tu hb;simp at d;omega
   rw [this] at a;exact a
  |succ j=>
   have:=ih (j0+1) h.2 j o (by simpa using f) zo p;have e:j0+1+j=j0+(j+1):=zo;rw [e] at this;exact this
theorem zak {ops:List Oper}{f:List Nat}:∀(l:List Oper) (i0:Nat),zg5 ops f l i0=true→∀i o k,l[i]?=some o→o.dst=some k→pairOk ops f (i0+i) k ops 0=true:=by
 intro l;induction l with
 |nil=>intro i0 _ i o k h;simp at h
 |cons q l ih=>
  intro i0 h i o k a d;unfold zg5 at h;simp only [AA] at h;cases i with
  |zero=>
   simp at a;subst a;rw [d] at h;exact h.1
  |succ i=>
   have:=ih (i0+1) h.2 i o k (by simpa using a) d;have e:i0+1+i=i0+(i+1):=zo;rw [e] at this;exact this
structure Lx (X:Rel)(C:Ctx)(ops:Array Oper)(D:Nat→Dr)(V:Nat→Value)(M:Nat→Nat):Prop where
 stp:∀i (hi:i<ops.size),Stp X C ops.toList i (M i) ops[i] (D i) (D (i+1)) (V i)
 stt:∀i (hi:i<ops.size),StT C ops[i] (D i) (D (i+1)) (V i)
 ms:∀i,i<ops.size→(xA ops.toList [])[i]?=some (M i)
 reg:regOk ops=true
 cst:∀o∈ops,yh o=true
 past:∀k,C.nt≤k→nth (D 0).s.t k=undef
 al:(D 0).al=[]
 ld:(D 0).ld=[]
 ef:(D 0).ef=[]
def xw (C:Ctx)(ops:Array Oper)(D:Nat→Dr)(j b:Nat)(c:List Value)(e:TypeId):Prop:=
 ∃(hj:j<ops.size) (k:Mk),cls ops[j].op=2∧vf ops.toList (D j).s.t ops[j]=true∧mkE C.E ops[j].op (ev (D j).s.t)=some k∧b=k.name (D j).s.n∧c=k.c∧e=k.e
def Efw (ops:Array Oper)(D:Nat→Dr)(j:Nat)(W:List Nat):Prop:=
 ∃(hj:j<ops.size),cls ops[j].op=3∧vf ops.toList (D j).s.t ops[j]=true∧(D (j+1)).ef=(j,(D j).s.h,W)::(D j).ef
section
variable {X:Rel}{C:Ctx}{D:Nat→Dr}{V:Nat→Value}{M:Nat→Nat}
theorem Lx.mask (L:Lx X C ops D V M)(hi:i<ops.size)(hj:(M i).testBit j=true):∃e∈ops[i].after,Bt .any e=true∧(e.on=j∨(e.on<i∧(M e.on).testBit j=true)):=by
 obtain ⟨o,d,e,m,l,h⟩:=zeh ops.toList [] i (M i) j gN (L.ms i hi) hj;have:o=ops[i]:=by
  simp only [List.length_nil,Nat.sub_zero,Dz,CZ hi] at d;exact (Bx d).symm
 subst this;refine ⟨e,m,l,h.imp id fun ⟨f,p,a,g⟩=>⟨f,?_⟩⟩;rw [L.ms e.on zo] at a;injection a with a
 rw [a];exact g
theorem Lx.down (L:Lx X C ops D V M)(hi:i<ops.size):∀e∈ops[i].after,Bt .any e=true→e.on<i:=fun e d a=>by
 have h:=L.reg;unfold regOk at h;simp only [AA] at h;have:=da ops.toList 0 h.1 i ops[i] (by simp [hi]) e d a;omega
theorem Lx.ord (L:Lx X C ops D V M)(hi:i<ops.size)(hj:j<ops.size)(o:i≠j)(l:ops[i].dst=some k)(m:ul ops.toList ops[j] k=true):
  (i<j→(M j).testBit i=true)∧(j<i→(M i).testBit j=true):=by
 have h:=L.reg;unfold regOk at h;simp only [AA] at h;have g:=zak ops.toList 0 h.2 i ops[i] k (by simp [hi]) l;have a:=fP ops.toList 0 g j ops[j] (by simp [hj]) zo m;have d:(xA ops.toList []).getD j 0=M j:=by simp [Ec,L.ms j hj]
 have f:(xA ops.toList []).getD i 0=M i:=by simp [Ec,L.ms i hi]
 simp only [sb,d,f] at a;exact a
theorem Lx.nle (L:Lx X C ops D V M)(a:i≤j)(hj:j≤ops.size):(D i).s.n≤(D j).s.n:=by
 induction j with
 |zero=>(have:i=0:=zo);subst this;exact AL _
 |succ j ih=>
  by_cases e:i=j+1
  ·subst e;exact AL _
  have d:=ih zo zo;have f:(D j).s.n≤(D (j+1)).s.n:=by
   cases L.stp j zo with
   |skip _ _ hs _=>rw [hs.n];exact AL _
   |pure _ _ _ _ hs _=>rw [hs.n];exact AL _
   |load _ _ _ _ _ _ _ _ _ hs _=>rw [hs.n];exact AL _
   |make _ _ _ _ _ _ hn _ _ _ _=>rw [hn];omega
   |eff _ _ _ _ _ _ _ h4 _ _ _ _=>exact h4
  omega
theorem Lx.past' (L:Lx X C ops D V M)(hi:i≤ops.size)(a:C.nt≤k):nth (D i).s.t k=undef:=by
 induction i with
 |zero=>exact L.past k a
 |succ i ih=>
  have h:=L.stt i zo;rw [h.t,eP (fun e=>eN (h.lt k e) (Gr.2 a))];exact ih zo
theorem Lx.sub (L:Lx X C ops D V M)(l:i≤j)(hj:j≤ops.size):(∀x∈(D i).al,x∈(D j).al)∧(∀x∈(D i).ld,x∈(D j).ld)∧∀x∈(D i).ef,x∈(D j).ef:=by
 induction j with
 |zero=>(have:i=0:=zo);subst this;exact ⟨fun _ h=>h,fun _ h=>h,fun _ h=>h⟩
 |succ j ih=>
  by_cases e:i=j+1
  ·subst e;exact ⟨fun _ h=>h,fun _ h=>h,fun _ h=>h⟩
  obtain ⟨a,d,f⟩:=ih zo zo;cases L.stp j zo with
  |skip _ _ hs hl=>rw [hs.al,hl,hs.ef];exact ⟨a,d,f⟩
  |pure _ _ _ _ hs hl=>rw [hs.al,hl,hs.ef];exact ⟨a,d,f⟩
  |load _ _ _ _ _ _ _ _ _ hs hl=>rw [hs.al,hl,hs.ef];exact ⟨a,fun x g=>by simp [d x g],f⟩
  |make _ _ _ _ _ _ _ _ ha hl he=>rw [ha,hl,he];exact ⟨fun x g=>by simp [a x g],d,f⟩
  |eff _ _ _ _ _ _ _ _ _ ha hl he=>rw [ha,hl,he];exact ⟨a,d,fun x g=>by simp [f x g]⟩
theorem Lx.efs (L:Lx X C ops D V M)(hj:j≤ops.size):(D j).ef.Pairwise (fun x y=>y.1<x.1)∧∀x∈(D j).ef,x.1<j∧x.2.1=(D x.1).s.h∧Efw ops D x.1 x.2.2:=by
 induction j with
 |zero=>rw [L.ef];exact ⟨List.Pairwise.nil,fun x a=>eN a og⟩
 |succ j ih=>
  obtain ⟨f,g⟩:=ih zo;have d:∀x∈(D j).ef,x.1<j+1∧x.2.1=(D x.1).s.h∧Efw ops D x.1 x.2.2:=fun x a=>⟨by have:=(g x a).1;omega,(g x a).2⟩;cases L.stp j zo with
  |skip _ _ hs _=>rw [hs.ef];exact ⟨f,d⟩
  |pure _ _ _ _ hs _=>rw [hs.ef];exact ⟨f,d⟩
  |load _ _ _ _ _ _ _ _ _ hs _=>rw [hs.ef];exact ⟨f,d⟩
  |make _ _ _ _ _ _ _ _ _ _ he=>rw [he];exact ⟨f,d⟩
  |eff hw hc W _ _ _ _ _ _ _ _ he=>
   refine ⟨?_,fun x a=>?_⟩
   ·rw [he];exact Gq.2 ⟨fun y l=>(g y l).1,f⟩
   rw [he] at a;rcases Ad.1 a with rfl|a
   ·exact ⟨gN,rfl,zo,hc,hw,he⟩
   exact d x a
theorem Lx.makes (L:Lx X C ops D V M)(hm:xw C ops D j b c e):3*(D j).s.n≤b∧b<3*((D j).s.n+1)∧b%3≠0∧(D (j+1)).s.n=(D j).s.n+1∧(D (j+1)).s.w=(D j).s.w∧
  (∀q,(D (j+1)).s.h.at q=if q=b then some (.row c e) else (D j).s.h.at q)∧(j,b)∈(D (j+1)).al∧∃d:j<ops.size,∃k:Mk,mkE C.E ops[j].op (ev (D j).s.t)=some k∧V j=k.val (D j).s.n∧b=k.name (D j).s.n∧c=k.c∧e=k.e:=by
 obtain ⟨d,k,a,o,f,rfl,rfl,rfl⟩:=hm;obtain ⟨g,l,m,p⟩:=rG k (D j).s.n;cases L.stp j d with
 |skip hw' _ _ _=>rw [o] at hw';cases hw'
 |pure _ hc2 _ _ _ _=>exact eN a hc2
 |load _ hc1 _ _ _ _ _ _ _ _ _=>rw [a] at hc1;cases hc1
 |make _ _ k' hm hv hh hn hW ha _ _=>
  rw [f] at hm;injection hm with hm
  subst hm;exact ⟨l,m,g,hn,hW,hh,by rw [ha];simp,d,k,f,hv,rfl,rfl,rfl⟩
 |eff _ hc3 _ _ _ _ _ _ _ _ _ _=>rw [a] at hc3;cases hc3
end
section
variable {ρ':Ren}
def zcg (ops:Array Oper)(In:Nat→Prop)(k q:Nat):Prop:=q≤ops.size∧∀i (hi:i<ops.size),ops[i].dst=some k→(In i↔i<q)
structure Core (X:Rel)(C:Ctx)(ops:Array Oper)(D:Nat→Dr)(ρ0:Ren)(h0:Hp)(w0:World)(p:Nat)(In:Nat→Prop)(Ms:List Nat)(a:Act)(w:World)(ρ:Ren):Prop where
 post:Post X ρ0 C.n0 h0 w0 (D p).s.w ρ undef (D p).s.h (D p).s.n w
 made:∀j b c e,xw C ops D j b c e→p≤j→In j→∃o,w.heap[ρ.b b]?=some o∧pk X ρ b (.row c e) o∧w0.heap.size≤ρ.b b∧(∀q,((D p).s.h.at q).isSome→ρ.b q≠ρ.b b)∧∀x∈Ms,ρ.b b≠x
 apart:∀j b c e j' b' c' e',xw C ops D j b c e→xw C ops D j' b' c' e'→p≤j→p≤j'→In j→In j'→j≠j'→ρ.b b≠ρ.b b'
 tmp:∀k,k<C.nt→∀q,zcg ops In k q→a.tmps[k]?=some (conc ρ (nth (D q).s.t k))
 mark:∀x∈Ms,w.heap[x]?=some (.deferred (some []))∧w0.heap.size≤x∧∀b,((D p).s.h.at b).isSome→ρ.b b≠x
def AgD (C:Ctx)(ops:Array Oper)(D:Nat→Dr)(p:Nat)(In:Nat→Prop)(ρ ρ':Ren):Prop:=
 Agr (3*(D p).s.n) ρ ρ'∧∀j b c e,xw C ops D j b c e→p≤j→In j→ρ'.b b=ρ.b b∧ρ'.x b=ρ.x b
structure J (X:Rel)(C:Ctx)(ops:Array Oper)(D:Nat→Dr)(ρ0:Ren)(h0:Hp)(w0:World)(p:Nat)(In:Nat→Prop)(Ms:List Nat)(a:Act)(w:World)(ρ:Ren):Prop where
 le:p≤ops.size
 eff:∀e W,Efw ops D e W→(In e↔e<p)
 mkp:∀j b c e,xw C ops D j b c e→j<p→In j
 cl:∀i (hi:i<ops.size),In i→∀e∈ops[i].after,Bt .any e=true→In e.on
 size:a.tmps.size=C.nt
 dfr:a.defers=fW Ms
 nd:Ms.Nodup
 nb:∀k q,zcg ops In k q→Nb (3*(D q).s.n) (nth (D q).s.t k)
 hnb:∀i,i≤p→HNb (3*(D i).s.n) (D i).s.h
 cnb:∀j b c e,xw C ops D j b c e→In j→∀v∈c,Nb (3*(D j).s.n) v
 old:∀e W,Efw ops D e W→e<p→∀b,b<3*(D e).s.n→b∉W→(D (e+1)).s.h.at b=(D e).s.h.at b
 core:∀ρ',AgD C ops D p In ρ ρ'→Core X C ops D ρ0 h0 w0 p In Ms a w ρ'
section
variable {X:Rel}{C:Ctx}{D:Nat→Dr}{V:Nat→Value}{M:Nat→Nat}{ρ0 ρ:Ren}{h0:Hp}{p:Nat}{w:World}
theorem AgD.refl:AgD C ops D p In ρ ρ:=⟨Agr.refl _ _,fun _ _ _ _ _ _ _=>⟨rfl,rfl⟩⟩
theorem Lx.maskIn (L:Lx X C ops D V M)(d:∀i (b:i<ops.size),In i→∀e∈ops[i].after,Bt .any e=true→In e.on):
  ∀i (b:i<ops.size),(∀e∈ops[i].after,Bt .any e=true→In e.on)→∀j,(M i).testBit j=true→In j:=by
 intro i;induction i using C1 with
 |ind i ih=>
  intro b m j q;obtain ⟨e,f,c,h⟩:=L.mask b q;rcases h with rfl|⟨l,g⟩
  ·exact m e f c
  exact ih e.on l zo (d e.on zo (m e f c)) j g
theorem zqs (L:Lx X C ops D V M)(I:J X C ops D ρ0 h0 w0 p In Ms a w ρ):∀(d:Nat),p+d≤ops.size→(∀e W,Efw ops D e W→p≤e→e<p+d→False)→(∀j b c e,xw C ops D j b c e→p≤j→j<p+d→In j)→
  ∀ρ',AgD C ops D p In ρ ρ'→Post X ρ0 C.n0 h0 w0 (D (p+d)).s.w ρ' undef (D (p+d)).s.h (D (p+d)).s.n w∧∀b,((D (p+d)).s.h.at b).isSome→((D p).s.h.at b).isSome∨∃j c e,xw C ops D j b c e∧p≤j∧j<p+d:=by
 intro d;induction d with
 |zero=>intro _ _ _ ρ' A;exact ⟨(I.core ρ' A).post,fun b u=>.inl u⟩
 |succ d ih=>
  intro a0 F B ρ' A;obtain ⟨P,R⟩:=ih zo (fun e W g m H=>F e W g m zo) (fun j b c e g m H=>B j b c e g m zo) ρ' A;have N:=I.core ρ' A;have G:∀b,((D (p+d)).s.h.at b).isSome→((D p).s.h.at b).isSome∨∃j c e,xw C ops D j b c e∧p≤j∧j<p+(d+1):=fun b u=>(R b u).imp id fun ⟨j,c,e,g,m,H⟩=>⟨j,c,e,g,m,zo⟩;have y:Quiet (D (p+d)) (D (p+d+1))→Post X ρ0 C.n0 h0 w0 (D (p+(d+1))).s.w ρ' undef (D (p+(d+1))).s.h (D (p+(d+1))).s.n w∧∀b,((D (p+(d+1))).s.h.at b).isSome→((D p).s.h.at b).isSome∨∃j c e,xw C ops D j b c e∧p≤j∧j<p+(d+1):=fun f=>by
   rw [show p+(d+1)=p+d+1 from rfl,f.h,f.n,f.w];exact ⟨P,G⟩
  cases hst:L.stp (p+d) zo with
  |skip _ _ f _=>exact y f
  |pure _ _ _ _ f _=>exact y f
  |load _ _ _ _ _ _ _ _ _ f _=>exact y f
  |make hw hc k hm T hh hn hW ha hl he=>
   have l:xw C ops D (p+d) (k.name (D (p+d)).s.n) k.c k.e:=⟨zo,k,hc,hw,hm,rfl,rfl,rfl⟩;obtain ⟨m1,m2,m3,m4,m5,U,m7,_⟩:=L.makes l;have K:=B _ _ _ _ l zo zo;obtain ⟨o,Y,Z,S,O,_⟩:=N.made _ _ _ _ l zo K;refine ⟨?_,fun b u=>?_⟩
   ·rw [show p+(d+1)=p+d+1 from rfl,hW,hn];refine P.add m1 m2 U Y Z (fun v T=>I.cnb _ _ _ _ l K v T) S fun q f=>?_;rcases R q f with g|⟨j,c,e,g,m,H⟩
    ·exact O q g
    exact N.apart _ _ _ _ _ _ _ _ g l m zo (B _ _ _ _ g m zo) K zo
   rw [show p+(d+1)=p+d+1 from rfl,U] at u;split at u
   ·rename_i e;subst e;exact .inr ⟨p+d,k.c,k.e,l,zo,zo⟩
   exact G b u
  |eff hw hc W _ _ _ _ _ _ _ _ he=>exact eN (F (p+d) W ⟨zo,hc,hw,he⟩ zo zo) id
theorem J.reads (L:Lx X C ops D V M)(c:J X C ops D ρ0 h0 w0 p In Ms a w ρ)(hi:i<ops.size)(b:¬In i)(s:∀e∈ops[i].after,Bt .any e=true→In e.on)(u:ul ops.toList ops[i] k=true):zcg ops In k i:=by
 refine ⟨zo,fun j d q=>?_⟩;by_cases e:j=i
 ·subst e;exact ⟨fun h=>eN h b,fun h=>eN h (EA _)⟩
 obtain ⟨l,m⟩:=L.ord d hi e q u;refine ⟨fun f=>?_,fun g=>L.maskIn c.cl i hi s j (l g)⟩;apply Cw;intro v;exact b (L.maskIn c.cl j d (c.cl j d f) i (m zo))
theorem mz {l:List Oper}(h:Operand.tmp k∈o.op.operands):ul l o k=true:=by
 unfold ul;have:o.op.operands.toList.any (zne k)=true:=List.any_eq_true.2 ⟨.tmp k,by simpa using h,by simp [zne]⟩;rw [this];simp
theorem lJ {g:Oper}{b:Bool}(h:o.guard=some (j,b))(d:ops[j]?=some g)(c:g.dst=some k):ul ops.toList o k=true:=by
 unfold ul;simp [h,d,c]
theorem fb {l:List Oper}(h:o.dst=some k):ul l o k=true:=by
 unfold ul;simp [h]
theorem J.evals (L:Lx X C ops D V M)(b:J X C ops D ρ0 h0 w0 p In Ms a w ρ)(hi:i<ops.size)(d:¬In i)(u:∀e∈ops[i].after,Bt .any e=true→In e.on)(q:AgD C ops D p In ρ ρ'):
  ∀x∈ops[i].op.operands,a.eval x=conc ρ' (ev (D i).s.t x):=by
 intro x m;have c:qD x=true:=by
  have:=L.cst ops[i] (DE hi);unfold yh at this;simp only [AA,Array.all_eq_true_iff_forall_mem] at this;exact this.1 x m
 cases x with
 |tmp k=>
  have y:=b.reads L hi d u (mz (l:=ops.toList) m);simp only [E5,ev];by_cases hk:k<C.nt
  ·have:=(b.core ρ' q).tmp k hk i y;simp [this]
  rw [L.past' zo (Gr.1 hk)];have:a.tmps[k]?=none:=B1 (by rw [b.size];exact Gr.1 hk);simp [this]
 |const v=>simp only [E5,ev];rw [show closed v=true from c];exact (yA c).symm
 |global g=>simp [E5,ev,Ren.addr,ρ'.gl]
 |func f=>simp [E5,ev,Ren.fn]
theorem J.evnb (L:Lx X C ops D V M)(b:J X C ops D ρ0 h0 w0 p In Ms a w ρ)(hi:i<ops.size)(c:¬In i)(d:∀e∈ops[i].after,Bt .any e=true→In e.on):
  ∀x∈ops[i].op.operands,Nb (3*(D i).s.n) (ev (D i).s.t x):=by
 intro x m;cases x with
 |tmp k=>exact b.nb k i (b.reads L hi c d (mz (l:=ops.toList) m))
 |const v=>
  simp only [ev];split
  ·exact Nb.closed (by assumption)
  exact Nb.undef
 |global g=>exact Nb.global g
 |func f=>intro ρ ρ' _;simp [ev,Ren.fn]
end
end
section
variable {ρ':Ren}{E:Env}
section
variable {X:Rel}{C:Ctx}{D:Nat→Dr}{V:Nat→Value}{M:Nat→Nat}{ρ0 ρ:Ren}{h0:Hp}{p:Nat}{w:World}
theorem J.wanted (L:Lx X C ops D V M)(f:J X C ops D ρ0 h0 w0 p In Ms a w ρ)(hi:i<ops.size)(l:¬In i)(F:∀e∈ops[i].after,Bt .any e=true→In e.on):
  Ez ops[i] (yielded ops a.tmps)=vf ops.toList (D i).s.t ops[i]:=by
 unfold Ez vf;cases hg:ops[i].guard with
 |none=>rfl
 |some q=>
  obtain ⟨j,b⟩:=q;simp only [Dz];unfold yielded;cases hj:ops[j]? with
  |none=>simp
  |some g=>
   simp only [DS];cases hdst:g.dst with
   |none=>simp
   |some d=>
    have y:=f.reads L hi l F (lJ (ops:=ops) hg hj hdst);by_cases hlt:d<C.nt
    ·simp only [DS,(f.core ρ AgD.refl).tmp d hlt i y];cases y:nth (D i).s.t d with
     |bool c=>cases b<;>cases c<;>simp
     |pointer q=>cases q<;>simp
     |slice q _ _=>cases q<;>simp
     |_=>simp [conc]
    have A:a.tmps[d]?=none:=B1 (by rw [f.size];exact De hlt);have B:=L.past' (i:=i) zo (De hlt);simp [A,B,undef]
theorem Lx.keep (L:Lx X C ops D V M):∀(d:Nat),i+d≤ops.size→(∀j (e:j<ops.size),i≤j→j<i+d→ops[j].dst≠some k)→nth (D (i+d)).s.t k=nth (D i).s.t k:=by
 intro d;induction d with
 |zero=>intro _ _;rfl
 |succ d ih=>
  intro g c;have h:=L.stt (i+d) zo;rw [show i+(d+1)=i+d+1 from rfl,h.t,eP (c _ zo zo zo)];exact ih zo fun j e f l=>c j e f zo
theorem J.next (L:Lx X C ops D V M)(l:J X C ops D ρ0 h0 w0 p In Ms a w ρ){q:Nat}(hi:i<ops.size)(F:¬In i)(g:zcg ops (fun j=>In j∨j=i) k q):
  (ops[i].dst=some k∧i<q∧nth (D q).s.t k=V i)∨(ops[i].dst≠some k∧zcg ops In k q):=by
 by_cases hd:ops[i].dst=some k
 ·have A:i<q:=(g.2 i hi hd).1 (.inr rfl);refine .inl ⟨hd,A,?_⟩;obtain ⟨d,rfl⟩:∃d,q=i+1+d:=⟨q-(i+1),zo⟩;rw [L.keep d g.1 fun j f H G c=>?_,(L.stt i hi).t,eS hd];have y:In j:=((g.2 j f c).2 G).resolve_right zo;have:=(L.ord hi f zo hd (fb c)).1 zo;exact F (L.maskIn l.cl j f (l.cl j f y) i this)
 refine .inr ⟨hd,g.1,fun j f c=>?_⟩;have B:j≠i:=fun e=>by subst e;exact hd c
 have:=g.2 j f c;exact ⟨fun h=>this.1 (.inl h),fun h=>(this.2 h).resolve_right B⟩
theorem fM {a:Act}{d:Option Tmp}:(a.put d v).tmps[k]?=if d=some k∧k<a.tmps.size then some v else a.tmps[k]?:=by
 cases d with
 |none=>simp [HH]
 |some i=>
  simp only [HH];by_cases e:i=k
  ·subst e;by_cases hk:i<a.tmps.size
   ·simp [hk]
   simp [hk]
  rw [Db e,eP];simp [e]
theorem kl {a:Act}{d:Option Tmp}:(a.put d v).tmps.size=a.tmps.size:=by
 cases d<;>simp [HH]
theorem qk {a:Act}{d:Option Tmp}:(a.put d v).defers=a.defers:=by
 cases d<;>simp [HH]
theorem AgD.mono {ρ:Ren}(h:AgD C ops D p (fun j=>In j∨j=i) ρ ρ'):AgD C ops D p In ρ ρ':=
 ⟨h.1,fun j b c e d f g=>h.2 j b c e d f (.inl g)⟩
theorem J.quiet (L:Lx X C ops D V M)(d:J X C ops D ρ0 h0 w0 p In Ms a w ρ)(hi:i<ops.size)(I:¬In i)(hr:∀e∈ops[i].after,Bt .any e=true→In e.on)
  (Z:∀W,¬Efw ops D i W)(a0:∀b c e,¬xw C ops D i b c e){N:Value}(R:∀ρ',AgD C ops D p In ρ ρ'→N=conc ρ' (V i))(Y:Nb (3*(D (i+1)).s.n) (V i)):
  J X C ops D ρ0 h0 w0 p (fun j=>In j∨j=i) Ms (a.put ops[i].dst N) w ρ:=by
 have F:∀j b c e,xw C ops D j b c e→(In j∨j=i)→In j:=fun j b c e g h=>h.resolve_right fun l=>by subst l;exact a0 _ _ _ g
 refine ⟨d.le,fun e W A=>?_,fun j b c e g B=>.inl (d.mkp j b c e g B),fun j T f e A S=>?_,by rw [kl];exact d.size,by rw [qk];exact d.dfr,d.nd,fun k q G=>?_,d.hnb,fun j b c e g f=>d.cnb j b c e g (F j b c e g f),d.old,fun ρ' K=>?_⟩
 ·rw [←d.eff e W A];refine ⟨fun h=>h.resolve_right fun l=>?_,.inl⟩;subst l;exact Z W A
 ·rcases f with f|rfl
  ·exact .inl (d.cl j T f e A S)
  exact .inl (hr e A S)
 ·rcases d.next L hi I G with ⟨_,a2,h⟩|⟨_,h⟩
  ·rw [h];exact Y.mono (by have:=L.nle (i:=i+1) (j:=q) zo G.1;omega)
  exact d.nb k q h
 have y:=d.core ρ' K.mono;refine ⟨y.post,fun j b c e g B f=>y.made j b c e g B (F j b c e g f),fun j b c e j' b' c' l g H B a1 f P=>y.apart j b c e j' b' c' l g H B a1 (F j b c e g f) (F _ _ _ _ H P),fun k U q G=>?_,y.mark⟩;rw [fM];rcases d.next L hi I G with ⟨O,_,h⟩|⟨O,h⟩
 ·rw [eS ⟨O,by rw [d.size];exact U⟩,h,R ρ' K.mono]
 rw [eP (fun h=>O h.1)];exact y.tmp k U q h
theorem fU (h:∀c:i<ops.size,cls ops[i].op=3→vf ops.toList (D i).s.t ops[i]=true→False):∀W,¬Efw ops D i W:=fun W ⟨c,d,e,_⟩=>h c d e
theorem oH (h:∀d:i<ops.size,cls ops[i].op=2→vf ops.toList (D i).s.t ops[i]=true→False):∀b c e,¬xw C ops D i b c e:=fun _ _ _ ⟨d,_,f,g,_⟩=>h d f g
theorem Lx.hist (L:Lx X C ops D V M){p:Nat}:∀(d:Nat),p+d≤ops.size→(∀e W,Efw ops D e W→p≤e→e<p+d→False)→
  ∀b x,(D (p+d)).s.h.at b=some x→(D p).s.h.at b=some x∨∃j c e,xw C ops D j b c e∧p≤j∧j<p+d∧x=.row c e:=by
 intro d;induction d with
 |zero=>intro _ _ b x f;exact .inl f
 |succ d ih=>
  intro G q b x f;have l:=ih zo (fun e W y A B=>q e W y A zo) b x;have g:((D p).s.h.at b=some x∨∃j c e,xw C ops D j b c e∧p≤j∧j<p+d∧x=.row c e)→((D p).s.h.at b=some x∨∃j c e,xw C ops D j b c e∧p≤j∧j<p+(d+1)∧x=.row c e):=
   fun h=>h.imp id fun ⟨j,c,e,y,A,B,F⟩=>⟨j,c,e,y,A,zo,F⟩
  rw [show p+(d+1)=p+d+1 from rfl] at f;cases L.stp (p+d) zo with
  |skip _ _ hq _=>rw [hq.h] at f;exact g (l f)
  |pure _ _ _ _ hq _=>rw [hq.h] at f;exact g (l f)
  |load _ _ _ _ _ _ _ _ _ hq _=>rw [hq.h] at f;exact g (l f)
  |make hw hc k hm hv hh hn hW ha hl he=>
   rw [hh] at f;split at f
   ·rename_i e;injection f with f
    exact .inr ⟨p+d,k.c,k.e,⟨zo,k,hc,hw,hm,e,rfl,rfl⟩,zo,zo,f.symm⟩
   exact g (l f)
  |eff hw hc W _ _ _ _ _ _ _ _ he=>exact eN (q (p+d) W ⟨zo,hc,hw,he⟩ zo zo) id
theorem J.stays (L:Lx X C ops D V M)(g:J X C ops D ρ0 h0 w0 p In Ms a w ρ):∀(d:Nat),u+d≤p→b<3*(D u).s.n→(∀e W,Efw ops D e W→u≤e→e<u+d→b∉W)→(D (u+d)).s.h.at b=(D u).s.h.at b:=by
 intro d;induction d with
 |zero=>intro _ _ _;rfl
 |succ d ih=>
  intro F A f;have B:=g.le;have c:=ih zo A (fun e W q y G=>f e W q y zo);have H:=L.nle (i:=u) (j:=u+d) zo zo;rw [show u+(d+1)=u+d+1 from rfl];cases L.stp (u+d) zo with
  |skip _ _ hq _=>rw [hq.h];exact c
  |pure _ _ _ _ hq _=>rw [hq.h];exact c
  |load _ _ _ _ _ _ _ _ _ hq _=>rw [hq.h];exact c
  |make hw hc k hm hv hh hn' hW ha hl he=>
   rw [hh,eP (by have:=(rG k (D (u+d)).s.n).2.1;omega)];exact c
  |eff hw hc W _ _ _ _ _ _ _ _ he=>
   have l:Efw ops D (u+d) W:=⟨zo,hc,hw,he⟩;rw [g.old _ W l zo b zo (f _ W l zo zo)];exact c
theorem rH (e:EnvOk2 X.E X.P){g:Operand→Value}{h:Hp}(c:uA X.E o.op g h=some (v,b)){ρ:Ren}{w:World}(l:Sim X ρ h w)(f:HNb m h):
  (execOp (fun x=>conc ρ (g x)) o).run X.P w=.ok (.value (conc ρ v)) w∧Nb m v:=by
 unfold uA at c;split at c
 ·rename_i t a ho;split at c
  ·rename_i ad ha;split at c
   ·rename_i u hu;simp at c;obtain ⟨rfl,rfl⟩:=c;obtain ⟨j,d,_⟩:=oM e.toEnvOk l f hu;refine ⟨?_,d⟩;unfold execOp;simp [ho,ha,Instr.loadAt,DL,j]
   cases c
  cases c
 cases c
theorem zh8 {g:Operand→Value}{h:Hp}(c:uA E o.op g h=some (v,b)):∃x,h.at b=some x:=by
 unfold uA at c;split at c
 ·split at c
  ·split at c
   ·rename_i u hu;simp at c;obtain ⟨rfl,rfl⟩:=c;unfold oN at hu;split at hu
    ·simp at hu;obtain ⟨f,d,_⟩:=hu;obtain ⟨_,x,e,_⟩:=xP d;exact ⟨x,e⟩
    ·split at hu
     ·rename_i d;obtain ⟨_,x,e,_⟩:=xP d;exact ⟨x,e⟩
     cases hu
    cases hu
   cases c
  cases c
 cases c
theorem J.load (hE:EnvOk2 X.E X.P)(hX:C.E=X.E)(L:Lx X C ops D V M)(y:J X C ops D ρ0 h0 w0 p In Ms a w ρ)(hi:i<ops.size)(a3:¬In i)(hr:∀e∈ops[i].after,Bt .any e=true→In e.on)
  (hw:vf ops.toList (D i).s.t ops[i]=true)(hc:cls ops[i].op=1){h:Hp}(ag:vQ (M i) (D i).ef i (D i).s.h=(u,h))(hp:uA C.E ops[i].op (ev (D i).s.t) h=some (v,b))
  (h1:qS u b (D i).ef=true)(h2:qn (M i) b (D i).al=true)(ac:(D (i+1)).ld=(i,b)::(D i).ld):
  (∀ρ',AgD C ops D p In ρ ρ'→(execOp a.eval ops[i]).run X.P w=.ok (.value (conc ρ' v)) w)∧Nb (3*(D i).s.n) v:=by
 obtain ⟨a6,a7⟩:=L.efs (j:=i) zo;obtain ⟨ah,ai⟩:=fK _ _ _ _ _ ag a6;have R:=L.maskIn y.cl i hi hr;have Z:=L.cst ops[i] (DE hi);rw [hX] at hp;have S:uA X.E ops[i].op (only ops[i] (ev (D i).s.t)) h=some (v,b):=uz (fun x f=>oF f) hp rfl
 -- the heap that is read
 have hu:u≤i∧h=(D u).s.h:=by
  rcases ai with ⟨rfl,rfl⟩|⟨W,hW⟩
  ·exact ⟨eU,rfl⟩
  obtain ⟨T,U,_⟩:=a7 _ hW;exact ⟨Nat.le_of_lt T,U⟩
 obtain ⟨ap,rfl⟩:=hu;obtain ⟨xx,F⟩:=zh8 S;have am:=y.le
 -- effects below u have aj
 have Y:∀e W,Efw ops D e W→e<u→e<p:=fun e W G a2=>by
  have B:(e,(D e).s.h,W)∈(D i).ef:=by
   obtain ⟨_,_,_,K⟩:=id G;exact (L.sub (i:=e+1) (j:=i) zo zo).2.2 _ (by rw [K];simp)
  exact (y.eff e W G).1 (R e (ah _ B a2))
 -- effects that have aj, from u on, do not write b
 have af:∀e W,Efw ops D e W→u≤e→e<p→b∉W:=fun e W G ad a2=>by
  obtain ⟨a0,I,aa,K⟩:=id G;rcases Nat.lt_trichotomy e i with a1|a1|a1
  ·have B:(e,(D e).s.h,W)∈(D i).ef:=(L.sub (i:=e+1) (j:=i) zo zo).2.2 _ (by rw [K];simp);exact za4 h1 _ _ _ B ad
  ·subst a1;rw [hc] at I;cases I
  have O:In e:=(y.eff e W G).2 a2;have B:(i,b)∈(D e).ld:=(L.sub (i:=i+1) (j:=e) zo zo).2.1 _ (by rw [ac];simp);cases L.stp e a0 with
  |skip hw' _ _ _=>rw [aa] at hw';cases hw'
  |pure _ _ hc3 _ _ _=>exact eN I hc3
  |load _ hc1 _ _ _ _ _ _ _ _ _=>rw [I] at hc1;cases hc1
  |make _ hc2 _ _ _ _ _ _ _ _ _=>rw [I] at hc2;cases hc2
  |eff _ _ W' _ _ _ h3 _ _ _ _ he'=>
   have:W'=W:=by
    rw [he'] at K;injection K with q1 q2
    injection q1 with q1 q3
    injection q3
   subst this;rcases fQ h3 i b B with g|g
   ·exact eN (L.maskIn y.cl e a0 (y.cl e a0 O) i g) a3
   exact g
 have a4:∀g:Hp,g.at b=(D u).s.h.at b→∀m,m≤3*(D i).s.n→HNb m g→(∀ρ',AgD C ops D p In ρ ρ'→Sim X ρ' g w)→
   (∀ρ',AgD C ops D p In ρ ρ'→(execOp a.eval ops[i]).run X.P w=.ok (.value (conc ρ' v)) w)∧Nb (3*(D i).s.n) v:=fun g hg m N hn hs=>by
  have hl:uA X.E ops[i].op (only ops[i] (ev (D i).s.t)) g=some (v,b):=uz (fun x _=>rfl) S hg;refine ⟨fun ρ' A=>?_,((rH hE hl (hs ρ AgD.refl) hn).2).mono N⟩;rw [vk Z (y.evals L hi a3 hr A)];exact (rH hE hl (hs ρ' A) hn).1
 by_cases hup:u≤p
 ·obtain ⟨d,rfl⟩:∃d,p=u+d:=⟨p-u,zo⟩;have a9:b<3*(D u).s.n:=(y.hnb u zo _ _ F).1;have a5:=y.stays L d eU a9 (fun e W G T U=>af e W G T U);obtain ⟨hl,_⟩:(uA X.E ops[i].op (only ops[i] (ev (D i).s.t)) (D (u+d)).s.h=some (v,b))∧True:=⟨uz (fun x _=>rfl) S a5,eT⟩;have hK:=y.core;refine ⟨fun ρ' A=>?_,?_⟩
  ·rw [vk Z (y.evals L hi a3 hr A)];exact (rH hE hl (hK ρ' A).post.sim (hK ρ' A).post.nb).1
  obtain ⟨t,H⟩:=Tr.single (none:Option Blk) (some xx) b;have ab:uA X.E ops[i].op (only ops[i] (ev (D i).s.t)) t=some (v,b):=uz (fun x _=>rfl) S (by show Tr.get none t b=_;rw [H,eS rfl];exact F.symm);have hs:Sim X ρ t w:=by
   refine ⟨fun c x f=>?_,fun c c' f l _=>?_⟩
   ·have f:Tr.get none t c=some x:=f;rw [H] at f;split at f
    ·rename_i e;subst e;rw [←F,←a5] at f;exact (hK ρ AgD.refl).post.sim.blk c x f
    cases f
   have f:(Tr.get none t c).isSome:=f;have l:(Tr.get none t c').isSome:=l;rw [H] at f l;split at f
   ·split at l
    ·rename_i e e';rw [e,e']
    cases l
   cases f
  have hn:HNb (3*(D u).s.n) t:=fun c x f=>by
   have f:Tr.get none t c=some x:=f;rw [H] at f;split at f
   ·rename_i e;subst e;rw [←F] at f;exact y.hnb u zo _ _ f
   cases f
  exact ((rH hE ab hs hn).2).mono (by have:=L.nle (i:=u) (j:=i) zo zo;omega)
 obtain ⟨d,rfl⟩:∃d,u=p+d:=⟨u-p,zo⟩;have ae:∀e W,Efw ops D e W→p≤e→e<p+d→False:=fun e W G T U=>by have:=Y e W G U;omega
 rcases L.hist d zo ae b _ F with hb|⟨j,c,e,N,T,U,g3⟩
 ·exact a4 (D p).s.h (by rw [hb,F]) (3*(D p).s.n) (by have:=L.nle (i:=p) (j:=i) zo zo;omega) (y.hnb p eU) fun ρ' A=>(y.core ρ' A).post.sim
 have O:In j:=by
  have B:(j,b)∈(D i).al:=(L.sub (i:=j+1) (j:=i) zo zo).1 _ (L.makes N).2.2.2.2.2.2.1;rcases zd7 h2 j b B with g|g
  ·exact R j g
  exact eN rfl g
 subst g3;obtain ⟨t,H⟩:=Tr.single (none:Option Blk) (some (.row c e)) b;have an:=(L.makes N).2.1;have ak:=L.nle (i:=j+1) (j:=i) zo zo;have ao:=(L.makes N).2.2.2.1;refine a4 t (by show Tr.get none t b=_;rw [H,eS rfl];exact F.symm) (3*(D i).s.n) eU (fun q x f=>?_) fun ρ' A=>⟨fun q x f=>?_,fun q q' f l _=>?_⟩
 ·have f:Tr.get none t q=some x:=f;rw [H] at f;split at f
  ·rename_i eq;injection f with f
   subst eq f;exact ⟨zo,fun v hv=>(y.cnb _ _ _ _ N O v hv).mono zo⟩
  cases f
 ·have f:Tr.get none t q=some x:=f;rw [H] at f;split at f
  ·rename_i eq;injection f with f
   subst eq f;obtain ⟨o,ho,a8,_⟩:=(y.core ρ' A).made _ _ _ _ N T O;exact ⟨o,ho,a8⟩
  cases f
 have f:(Tr.get none t q).isSome:=f;have l:(Tr.get none t q').isSome:=l;rw [H] at f l;split at f
 ·split at l
  ·rename_i e1 e2;rw [e1,e2]
  cases l
 cases f
end
end
section
variable {X:Rel}{C:Ctx}{D:Nat→Dr}{V:Nat→Value}{M:Nat→Nat}{ρ0 ρ:Ren}{h0:Hp}{p:Nat}{w:World}
theorem Post.grow {ρ:Ren}{h:Hp}{w:World}(p:Post X ρ0 n0 h0 w0 W ρ v h n w)(d:∀k,k<w.heap.size→w'.heap[k]?=w.heap[k]?)(A:w.heap.size≤w'.heap.size)(l:w'.os=w.os)(m:w'.tape=w.tape)(f:w'.output=w.output):Post X ρ0 n0 h0 w0 W ρ v h n w':=by
 refine ⟨p.agr,p.le,⟨fun c x s=>?_,p.sim.inj⟩,p.nb,p.val,p.wlt,p.wmem,fun j u q=>?_,by have:=p.size;omega,l.trans p.os,m.trans p.tape,f.trans p.out,p.new,p.old⟩
 ·obtain ⟨o,g,y⟩:=p.sim.blk c x s;exact ⟨o,by rw [d _ (Aw.1 g).1];exact g,y⟩
 rw [d j (by have:=p.size;omega)];exact p.fr j u q
theorem xw.lt_of_lt (L:Lx X C ops D V M)(hm:xw C ops D j b c e)(hi:i≤ops.size)(h:j<i):b<3*(D i).s.n:=by
 have d:=(L.makes hm).2.1;have f:=(L.makes hm).2.2.2.1;have g:=L.nle (i:=j+1) (j:=i) zo hi;omega
theorem xw.le_of_le (L:Lx X C ops D V M)(hm:xw C ops D j b c e)(h:i≤j):3*(D i).s.n≤b:=by
 have d:=(L.makes hm).1;have g:j<ops.size:=hm.1;have f:=L.nle (i:=i) (j:=j) h zo;omega
theorem J.make (hE:EnvOk2 X.E X.P)(hX:C.E=X.E)(L:Lx X C ops D V M)(hJ:J X C ops D ρ0 h0 w0 p In Ms a w ρ)(hi:i<ops.size)(hni:¬In i)(hr:∀e∈ops[i].after,Bt .any e=true→In e.on)
  (hw:vf ops.toList (D i).s.t ops[i]=true)(hc:cls ops[i].op=2){k:Mk}(hm:mkE C.E ops[i].op (ev (D i).s.t)=some k)(hv:V i=k.val (D i).s.n):
  ∃ρ2 w' val,(execOp a.eval ops[i]).run X.P w=.ok (.value val) w'∧J X C ops D ρ0 h0 w0 p (fun j=>In j∨j=i) Ms (a.put ops[i].dst val) w' ρ2:=by
 have hcst:=L.cst ops[i] (DE hi);have hmk:xw C ops D i (k.name (D i).s.n) k.c k.e:=⟨hi,k,hc,hw,hm,rfl,rfl,rfl⟩;have hpi:p≤i:=De fun h=>hni (hJ.mkp _ _ _ _ hmk h);obtain ⟨n1,n2,n3,n4⟩:=rG k (D i).s.n;have hnext:=(L.makes hmk).2.2.2.1;obtain ⟨t,ht⟩:=Tr.single (none:Option Blk) (some (.row k.c k.e)) (k.name (D i).s.n);have hevn:=hJ.evnb L hi hni hr;have hmO:mkE X.E ops[i].op (only ops[i] (ev (D i).s.t))=some k:=by rw [←hX,←hm];exact (zef fun x hx=>oF hx).symm
 obtain ⟨ρ1,w',hrun,hpost⟩:=zkj (X:=X) (ρ:=ρ) (h:=.lf) (h':=t) (w:=w) (n:=(D i).s.n) hE.toEnvOk ⟨fun b x hb=>(by cases hb),fun b b' hb=>(by cases hb)⟩ (fun b x hb=>(by cases hb)) (oE hevn) hmO (fun c=>ht c);rw [←vk hcst (hJ.evals L hi hni hr AgD.refl)] at hrun;generalize hbb:k.name (D i).s.n=b at*
 have htb:Hp.at t b=some (.row k.c k.e):=by show Tr.get none t b=_;rw [ht,eS rfl]
 obtain ⟨o,ho,hrel⟩:=hpost.sim.blk b _ htb;have hbnew:w.heap.size≤ρ1.b b:=by
  rcases hpost.new b n2 (by rw [htb];rfl) with h|⟨c,hc,_⟩
  ·exact h
  cases hc
 have hfar:∀j,j<w.heap.size→w'.heap[j]?=w.heap[j]?:=fun j hj=>hpost.fr j hj fun c hc=>by cases hc
 have hρx:gro b=false→ρ1.x b=0:=ρ1.ex b;let ρ2:Ren:=ρ.upd b (ρ1.b b) (ρ1.x b) hρx n1
 have e2:ρ2.b b=ρ1.b b∧ρ2.x b=ρ1.x b:=by simp [ρ2,Ren.upd]
 have e2':∀c,c≠b→ρ2.b c=ρ.b c∧ρ2.x c=ρ.x c:=fun c hc=>by simp [ρ2,Ren.upd,hc]
 have hnm:∀j b' c e,xw C ops D j b' c e→j≠i→b'≠b:=fun j b' c e hm' hne=>by
  rcases D9 hne with h|h
  ·have:=xw.lt_of_lt L hm' (i:=i) zo h;omega
  have:=xw.le_of_le L hm' (i:=i+1) h;omega
 have hnp:=L.nle (i:=p) (j:=i) hpi zo
 -- a reading that agrees with ρ2 agrees with ρ
 have hagd:∀ρ',AgD C ops D p (fun j=>In j∨j=i) ρ2 ρ'→AgD C ops D p In ρ ρ':=fun ρ' h=>by
  refine ⟨fun c hc=>?_,fun j b' c e hm' hp hin=>?_⟩
  ·have h1:=h.1 c hc;have h2:=e2' c zo;exact ⟨h1.1.trans h2.1,h1.2.trans h2.2⟩
  have h1:=h.2 j b' c e hm' hp (.inl hin);have h2:=e2' b' (hnm j b' c e hm' fun e'=>by subst e';exact hni hin);exact ⟨h1.1.trans h2.1,h1.2.trans h2.2⟩
 have hatb:∀ρ',AgD C ops D p (fun j=>In j∨j=i) ρ2 ρ'→ρ'.b b=ρ1.b b∧ρ'.x b=ρ1.x b:=fun ρ' h=>by
  have:=h.2 i b k.c k.e hmk hpi (.inr rfl);exact ⟨this.1.trans e2.1,this.2.trans e2.2⟩
 have hvalc:∀ρ',ρ'.b b=ρ1.b b∧ρ'.x b=ρ1.x b→conc ρ1 (k.val (D i).s.n)=conc ρ' (k.val (D i).s.n):=fun ρ' h=>by
  unfold Mk.val;rw [hbb];split<;>simp [Ren.addr,h.1,h.2]
 have hcn:∀v∈k.c,Nb (3*(D i).s.n) v:=fun v hv=>by
  rcases zkk (fun e sz bt z hz=>(hE.inf e sz bt z (by rw [←hX];exact hz)).2) hm v hv with h|⟨x,hx,h⟩
  ·exact fun r r' _=>by rw [h,h]
  exact (hevn x hx).cells v h
 have hcc:∀ρ',AgD C ops D p In ρ ρ'→∀v∈k.c,conc ρ' v=conc ρ1 v:=fun ρ' h v hv=>by
  rw [hcn v hv ρ ρ1 hpost.agr];rcases zkk (fun e sz bt z hz=>(hE.inf e sz bt z (by rw [←hX];exact hz)).2) hm v hv with h'|⟨x,hx,h'⟩
  ·rw [h',h']
  have q1:=hJ.evals L hi hni hr h x hx;have q2:=hJ.evals L hi hni hr AgD.refl x hx;have q:=congrArg zn (q1.symm.trans q2);rw [yz,yz] at q;exact Fl.1 q v h'
 refine ⟨ρ2,w',_,hrun,hJ.le,fun e W he=>?_,fun j b c e hm hp=>.inl (hJ.mkp j b c e hm hp),fun j hj' hin e he hb=>?_,by rw [kl];exact hJ.size,by rw [qk];exact hJ.dfr,hJ.nd,fun k' q hvq=>?_,hJ.hnb,fun j b' c e hm' hin=>?_,hJ.old,fun ρ' hρ'=>?_⟩
 ·rw [←hJ.eff e W he];refine ⟨fun h=>h.resolve_right fun e'=>?_,.inl⟩;subst e';obtain ⟨_,h3,_⟩:=he;rw [hc] at h3;cases h3
 ·rcases hin with hin|rfl
  ·exact .inl (hJ.cl j hj' hin e he hb)
  exact .inl (hr e he hb)
 ·rcases hJ.next L hi hni hvq with ⟨_,hiq,h⟩|⟨_,h⟩
  ·rw [h,hv];exact hpost.val.mono (by have:=L.nle (i:=i+1) (j:=q) zo hvq.1;omega)
  exact hJ.nb k' q h
 ·rcases hin with hin|rfl
  ·exact hJ.cnb j b' c e hm' hin
  obtain ⟨_,k',_,_,hk',_,rfl,_⟩:=hm';rw [hm] at hk';injection hk' with hk'
  subst hk';exact hcn
 have hag:=hagd ρ' hρ';have hK:=hJ.core ρ' hag;have hb':=hatb ρ' hρ';have hin':∀j b' c e,xw C ops D j b' c e→j=i→b'=b∧c=k.c∧e=k.e:=fun j b' c e hm' e'=>by
  subst e';obtain ⟨_,k',_,_,hk',h1,h2,h3⟩:=hm';rw [hm] at hk';injection hk' with hk'
  subst hk';exact ⟨h1.trans hbb,h2,h3⟩
 refine ⟨hK.post.grow hfar hpost.size hpost.os hpost.tape hpost.out,fun j b' c e hm' hp hin=>?_,fun j b1 c1 e1 j' b2 c2 e2 hm1 hm2 hp1 hp2 hin1 hin2 hne=>?_,fun k' hk q hvq=>?_,fun x hx=>?_⟩
 ·rcases hin with hin|hin
  ·obtain ⟨o',ho',h1,h2,h3,h4⟩:=hK.made j b' c e hm' hp hin;exact ⟨o',by rw [hfar _ (Aw.1 ho').1];exact ho',h1,h2,h3,h4⟩
  obtain ⟨rfl,rfl,rfl⟩:=hin' j b' c e hm' hin;refine ⟨o,by rw [hb'.1];exact ho,?_,?_,fun q hq=>?_,fun x hx=>?_⟩
  ·obtain ⟨junk,fz,rfl,r1,r2,r3⟩:=hrel;refine ⟨junk,fz,?_,r1,r2,fun sz bt z hz=>by rw [hb'.2];exact r3 sz bt z hz⟩;rw [A2 (hcc ρ' hag)]
  ·rw [hb'.1];have:=hK.post.size;omega
  ·obtain ⟨y,hy⟩:=Aq.1 hq;obtain ⟨o',ho',_⟩:=hK.post.sim.blk q y hy;have:=(Aw.1 ho').1;rw [hb'.1];omega
  have:=(Aw.1 (hK.mark x hx).1).1;rw [hb'.1];omega
 ·have small:∀j b c e,xw C ops D j b c e→p≤j→In j→ρ'.b b<w.heap.size:=fun j b c e hm hp hin=>by
   obtain ⟨o',ho',_⟩:=hK.made j b c e hm hp hin;exact (Aw.1 ho').1
  rcases hin1 with hin1|hin1
  ·rcases hin2 with hin2|hin2
   ·exact hK.apart _ _ _ _ _ _ _ _ hm1 hm2 hp1 hp2 hin1 hin2 hne
   obtain ⟨rfl,_⟩:=hin' _ _ _ _ hm2 hin2;have:=small _ _ _ _ hm1 hp1 hin1;rw [hb'.1];omega
  rcases hin2 with hin2|hin2
  ·obtain ⟨rfl,_⟩:=hin' _ _ _ _ hm1 hin1;have:=small _ _ _ _ hm2 hp2 hin2;rw [hb'.1];omega
  exact eN (hin1.trans hin2.symm) hne
 ·rw [fM];rcases hJ.next L hi hni hvq with ⟨hd,_,h⟩|⟨hd,h⟩
  ·rw [eS ⟨hd,by rw [hJ.size];exact hk⟩,h,hv,hvalc ρ' hb']
  rw [eP (fun h=>hd h.1)];exact hK.tmp k' hk q h
 obtain ⟨m1,m2,m3⟩:=hK.mark x hx;exact ⟨by rw [hfar _ (Aw.1 m1).1];exact m1,m2,m3⟩
def Ren.mix (m:Nat)(ρ1 ρ:Ren):Ren where
 b c:=if c<m then ρ1.b c else ρ.b c
 x c:=if c<m then ρ1.x c else ρ.x c
 ex c hc:=by
  split
  ·exact ρ1.ex c hc
  exact ρ.ex c hc
 gl g:=by
  split
  ·exact ρ1.gl g
  exact ρ.gl g
theorem J.effect (L:Lx X C ops D V M)(A:J X C ops D ρ0 h0 w0 p In Ms a w ρ)(hi:i<ops.size)(ab:¬In i)(hr:∀e∈ops[i].after,Bt .any e=true→In e.on)
  (hw:vf ops.toList (D i).s.t ops[i]=true)(B:cls ops[i].op=3)(h1:gu (M i) (D i).ef=true)(h2:xJ (M i) (D i).al=true)
  (hW:(D (i+1)).s.w=addW C.n0 W (D i).s.w)(he:(D (i+1)).ef=(i,(D i).s.h,W)::(D i).ef):
  Sim X ρ (D i).s.h w∧HNb (3*(D i).s.n) (D i).s.h∧∀U w',Post X ρ (D i).s.n (D i).s.h w W U (V i) (D (i+1)).s.h (D (i+1)).s.n w'→
   ∃ρ2,J X C ops D ρ0 h0 w0 (i+1) (fun j=>In j∨j=i) Ms (a.put ops[i].dst (conc U (V i))) w' ρ2:=by
 have an:Efw ops D i W:=⟨hi,B,hw,he⟩;have ac:p≤i:=De fun h=>ab ((A.eff i W an).2 h);have a6:=L.maskIn A.cl i hi hr;have R:∀e u,Efw ops D e u→e<i→In e:=fun e u H F=>by
  obtain ⟨_,_,_,a3⟩:=id H;have a1:(e,(D e).s.h,u)∈(D i).ef:=(L.sub (i:=e+1) (j:=i) zo zo).2.2 _ (by rw [a3];simp);exact a6 e (zgk h1 _ _ a1)
 have a2:∀j b c e,xw C ops D j b c e→j<i→In j:=fun j b c e l F=>by
  have a1:(j,b)∈(D i).al:=(L.sub (i:=j+1) (j:=i) zo zo).1 _ (L.makes l).2.2.2.2.2.2.1;exact a6 j (zgm h2 _ _ a1)
 have aq:∀e u,Efw ops D e u→p≤e→e<i→False:=fun e u H S Z=>by
  have:=(A.eff e u H).1 (R e u H Z);omega
 have K:∀q,p≤q→q≤i→∀f,AgD C ops D p In ρ f→Post X ρ0 C.n0 h0 w0 (D q).s.w f undef (D q).s.h (D q).s.n w∧∀b,((D q).s.h.at b).isSome→((D p).s.h.at b).isSome∨∃j c e,xw C ops D j b c e∧p≤j∧j<q:=fun q S Z f ae=>by
  have:=zqs L A (q-p) zo (fun e u H N O=>aq e u H N zo) (fun j b c e l N O=>a2 j b c e l zo) f ae;rw [show p+(q-p)=q from zo] at this;exact this
 obtain ⟨a7,az⟩:=K i ac eU ρ AgD.refl;refine ⟨a7.sim,a7.nb,fun U w' d=>⟨Ren.mix (3*(D (i+1)).s.n) U ρ,?_⟩⟩;have ax:=L.nle (i:=p) (j:=i) ac zo;have au:=L.nle (i:=i) (j:=i+1) zo zo;have I:∀j b c e,xw C ops D j b c e→j≠i:=fun j b c e l Y=>by
  subst Y;obtain ⟨_,_,h3,_⟩:=l;rw [B] at h3;cases h3
 -- a reading that agrees with the new one agrees with ρ
 have aj:∀f,AgD C ops D (i+1) (fun j=>In j∨j=i) (Ren.mix (3*(D (i+1)).s.n) U ρ) f→AgD C ops D p In ρ f∧Agr (3*(D (i+1)).s.n) U f:=fun f h=>by
  have G:Agr (3*(D (i+1)).s.n) U f:=fun c B=>by
   have:=h.1 c B;simp [Ren.mix,B] at this;exact this
  have a5:∀c,c<3*(D i).s.n→f.b c=ρ.b c∧f.x c=ρ.x c:=fun c B=>by
   have N:=G c zo;have O:=d.agr c B;exact ⟨N.1.trans O.1,N.2.trans O.2⟩
  refine ⟨⟨fun c B=>a5 c zo,fun j b c e l hp m=>?_⟩,G⟩;rcases D9 (I j b c e l) with g|g
  ·exact a5 b (xw.lt_of_lt L l zo g)
  have q:=h.2 j b c e l g (.inl m);have O:=xw.le_of_le L l (i:=i+1) g;simp only [Ren.mix,eP (Gr.2 O)] at q;exact q
 refine ⟨zo,fun e u H=>?_,fun j b c e l F=>?_,fun j ao m e ag hb=>?_,by rw [kl];exact A.size,by rw [qk];exact A.dfr,A.nd,fun k q a8=>?_,fun q T=>?_,fun j b c e l m=>?_,fun e u H F=>?_,fun f ae=>?_⟩
 ·constructor
  ·rintro (h|rfl)
   ·have:=(A.eff e u H).1 h;omega
   omega
  intro F;by_cases Y:e=i
  ·exact .inr Y
  exact .inl (R e u H zo)
 ·exact .inl (a2 j b c e l (by have:=I j b c e l;omega))
 ·rcases m with m|rfl
  ·exact .inl (A.cl j ao m e ag hb)
  exact .inl (hr e ag hb)
 ·rcases A.next L hi ab a8 with ⟨_,aw,h⟩|⟨_,h⟩
  ·rw [h];exact d.val.mono (by have:=L.nle (i:=i+1) (j:=q) zo a8.1;omega)
  exact A.nb k q h
 ·by_cases g:q≤p
  ·exact A.hnb q g
  by_cases g':q≤i
  ·exact (K q zo g' ρ AgD.refl).1.nb
  have:q=i+1:=zo;subst this;exact d.nb
 ·exact A.cnb j b c e l (m.resolve_right (I j b c e l))
 ·by_cases Y:e=i
  ·subst Y;have:u=W:=by
    obtain ⟨_,_,_,a3⟩:=H;rw [he] at a3;injection a3 with N O
    injection N with N q3
    injection q3 with _ q3
    exact q3.symm
   subst this;exact d.old
  exact A.old e u H ((A.eff e u H).1 (R e u H zo))
 obtain ⟨af,G⟩:=aj f ae;have hK:=A.core f af;have a9:∀c,c<3*(D i).s.n→f.b c=ρ.b c:=fun c B=>(G c zo).1.trans (d.agr c B).1;obtain ⟨ay,ar⟩:=K i ac eU f af
 -- the blocks before the effect
 have av:∀q,((D i).s.h.at q).isSome→q<3*(D i).s.n:=fun q T=>by
  obtain ⟨y,hy⟩:=Aq.1 T;exact (a7.nb q y hy).1
 have ad:∀k,(∀q,((D p).s.h.at q).isSome→f.b q≠k)→(∀j b c e,xw C ops D j b c e→p≤j→j<i→In j→f.b b≠k)→∀q,((D i).s.h.at q).isSome→f.b q≠k:=fun k S Z q T=>by
  rcases ar q T with g|⟨j,c,e,l,N,O⟩
  ·exact S q g
  exact Z j q c e l N O (a2 j q c e l O)
 have P:∀k,k<w.heap.size→(∀q,((D i).s.h.at q).isSome→f.b q≠k)→∀q,((D (i+1)).s.h.at q).isSome→f.b q≠k:=fun k hk g q T=>by
  by_cases hq3:q<3*(D i).s.n
  ·apply g;by_cases hqW:q∈W
   ·exact d.wmem q hqW
   rw [←d.old q hq3 hqW];exact T
  obtain ⟨y,hy⟩:=Aq.1 T;rw [(G q (d.nb q y hy).1).1];rcases d.new q zo T with h4|⟨c,B,h4⟩
  ·omega
  rw [h4,←a9 c (d.wlt c B)];exact g c (d.wmem c B)
 have a4:∀k,k<w.heap.size→(∀q,((D i).s.h.at q).isSome→f.b q≠k)→w'.heap[k]?=w.heap[k]?:=fun k hk g=>d.fr k hk fun c B=>by
  rw [←a9 c (d.wlt c B)];exact g c (d.wmem c B)
 refine ⟨?_,fun j b c e l hp m=>?_,fun j b1 c1 e1 j' b2 c2 e2 ah ai S Z ak am ap=>?_,fun k hk q a8=>?_,fun x hx=>?_⟩
 ·rw [hW];exact ((a7.trans d).wv Nb.undef).agr2 G
 ·have m:=m.resolve_right (I j b c e l);obtain ⟨o,ho,r1,r2,r3,r4⟩:=hK.made j b c e l zo m;have F:=(Aw.1 ho).1;have hs:=ad (f.b b) r3 fun j' b' c' Y aa S Z a0=>hK.apart _ _ _ _ _ _ _ _ aa l S zo a0 m zo;exact ⟨o,by rw [a4 _ F hs];exact ho,r1,r2,P _ F hs,r4⟩
 ·exact hK.apart _ _ _ _ _ _ _ _ ah ai zo zo (ak.resolve_right (I _ _ _ _ ah)) (am.resolve_right (I _ _ _ _ ai)) ap
 ·rw [fM];rcases A.next L hi ab a8 with ⟨hd,_,h⟩|⟨hd,h⟩
  ·rw [eS ⟨hd,by rw [A.size];exact hk⟩,h,d.val U f G]
  rw [eP (fun h=>hd h.1)];exact hK.tmp k hk q h
 obtain ⟨m1,m2,m3⟩:=hK.mark x hx;have F:=(Aw.1 m1).1;have hs:=ad x m3 fun j' b' c' Y aa S Z a0=>by
  obtain ⟨_,_,_,_,_,r4⟩:=hK.made _ _ _ _ aa S a0;exact r4 x hx
 exact ⟨by rw [a4 _ F hs];exact m1,m2,P _ F hs⟩
theorem J.step (H:EnvOk2 X.E X.P)(O:C.E=X.E)(L:Lx X C ops D V M)(g:J X C ops D ρ0 h0 w0 p In Ms a w ρ)(hi:i<ops.size)(f:¬In i)(l:∀e∈ops[i].after,Bt .any e=true→In e.on)
  {Z:Option Nat}{Y:Nat}{K:Act→World→Prop}{Q:Exit→Act→World→Prop}(F:∀p' a' w' m,J X C ops D ρ0 h0 w0 p' (fun j=>In j∨j=i) Ms a' w' m→K a' w'):
  wpOpIn (Wd Z) Y X.P ops Q i K a w:=by
 have o:=L.cst ops[i] (DE hi);have G:=g.wanted L hi f l;unfold wpOpIn;rw [CZ hi];simp only;rw [G];have S:=L.stp i hi;cases S with
 |skip hw hv hs hl=>
  rw [hw];simp only [A1,if_false];refine ⟨fun _ _=>trivial,F p _ w ρ ?_⟩;exact g.quiet L hi f l (fU fun _ _ h=>by rw [hw] at h;cases h) (oH fun _ _ h=>by rw [hw] at h;cases h) (fun m _=>by rw [hv];simp) (by rw [hv];exact Nb.undef)
 |pure hw hc2 hc3 hp hs hl=>
  rw [hw];simp only [if_true];have N:yy X.E ops[i].op (only ops[i] (ev (D i).s.t))=some (V i):=by rw [←O,←hp];exact (fO fun x hx=>oF hx).symm
  have d:∀m,AgD C ops D p In ρ m→(execOp a.eval ops[i]).run X.P w=.ok (.value (conc m (V i))) w:=fun m A=>by
   rw [vk o (g.evals L hi f l A)];exact rD H.toEnvOk w m (fun _=>rfl) N
  have y:Nb (3*(D (i+1)).s.n) (V i):=by
   rw [hs.n];exact fN H.toEnvOk (oE (g.evnb L hi f l)) N
  refine uj o (d ρ AgD.refl) (.inl rfl) (F p _ w ρ ?_);refine g.quiet L hi f l (fU fun _ h _=>hc3 h) (oH fun _ h _=>hc2 h) (fun m A=>?_) y;have q:=(d ρ AgD.refl).symm.trans (d m A);injection q with q
  injection q
 |load hw hc u b h hrd hp h1 h2 hs hl=>
  rw [hw];simp only [if_true];obtain ⟨d,y⟩:=g.load H O L hi f l hw hc hrd hp h1 h2 hl;refine uj o (d ρ AgD.refl) (.inl rfl) (F p _ w ρ ?_);refine g.quiet L hi f l (fU fun _ h _=>by rw [hc] at h;cases h) (oH fun _ h _=>by rw [hc] at h;cases h) (fun m A=>?_) (by rw [hs.n];exact y);have q:=(d ρ AgD.refl).symm.trans (d m A);injection q with q
  injection q
 |make hw hc k hm hv hh hn hW ha hl he=>
  rw [hw];simp only [if_true];obtain ⟨T,w',a0,d,B⟩:=g.make H O L hi f l hw hc hm hv;exact uj o d (.inl rfl) (F p _ w' T B)
 |eff hw hc W hEf h1 h2 h3 h4 hW ha hl he=>
  rw [hw];simp only [if_true];obtain ⟨R,y,U⟩:=g.effect L hi f l hw hc h1 h2 hW he;refine hEf Z Y a w ρ (g.evals L hi f l AgD.refl) (g.evnb L hi f l) R y K Q fun ρ1 w' I=>?_;obtain ⟨T,B⟩:=U ρ1 w' I;exact F _ _ w' T B
def xv (listed:Array Bool)(j:Nat):Prop:=listed.getD j false=true
def rd (listed:Array Bool):Nat:=listed.toList.countP (fun b=> !b)
theorem qL {d:Array Bool}(hi:i<d.size)(h:d[i]=false):rd (d.setIfInBounds i true)+1=rd d:=by
 unfold rd;rw [Array.toList_setIfInBounds];have:∀(l:List Bool) (i:Nat) (hi:i<gP l),l[i]=false→(l.set i true).countP (fun b=> !b)+1=l.countP (fun b=> !b):=by
  intro l;induction l with
  |nil=>intro i hi;simp at hi
  |cons b l ih=>
   intro i hi f;cases i with
   |zero=>simp at f;subst f;simp
   |succ i=>
    have:=ih i (by simpa using hi) (by simpa using f);simp only [List.set_cons_succ,List.countP_cons];omega
 exact this _ _ (by simpa using hi) (by simpa using h)
theorem zgj (hE:EnvOk2 X.E X.P)(hX:C.E=X.E)(L:Lx X C ops D V M){ro:Option Nat}{kk:Nat}{Q:Exit→Act→World→Prop}{s':St}(a6:(D ops.size).s=s')
  (hQ:∀K w',Inv X C.nt C.n0 ρ0 h0 w0 s' K w'→Q .normal K w'):∀(l:Nat) (listed:Array Bool) (p:Nat) (a:Act) (w:World) (ρ:Ren),listed.size=ops.size→rd listed≤l→J X C ops D ρ0 h0 w0 p (xv listed) Ms a w ρ→
   wpAnyIn (Wd ro) kk X.P .any ops Q l listed a w:=by
 have H:∀(listed:Array Bool) (p:Nat) (a:Act) (w:World) (ρ:Ren),listed.size=ops.size→GI .any ops listed=[]→J X C ops D ρ0 h0 w0 p (xv listed) Ms a w ρ→Q .normal a w:=by
  intro listed p a w ρ u q d;have y:∀i,i<ops.size→xv listed i:=by
   intro i;induction i using C1 with
   |ind i ih=>
    intro m;apply tp;intro I;have:i∈GI .any ops listed:=by
     rw [mem_ready];refine ⟨?_,ops[i],CZ m,fun e G N=>ih e.on (L.down m e G N) (by have:=L.down m e G N;omega)⟩;unfold xv at I;have f:i<listed.size:=zo;simp [f] at I ⊢;exact I
    rw [q] at this;cases this
  have A:∀k,zcg ops (xv listed) k ops.size:=fun k=>⟨eU,fun i m _=>⟨fun _=>m,fun _=>y i m⟩⟩;obtain ⟨B,R⟩:=zqs L d (ops.size-p) (by have:=d.le;omega) (fun e W G S Z=>by
   obtain ⟨a3,_⟩:=id G;have:=(d.eff e W G).1 (y e a3);omega) (fun j b c e O S Z=>y j O.1) ρ AgD.refl
  rw [show p+(ops.size-p)=ops.size from by have:=d.le;omega] at B R;have T:=d.core ρ AgD.refl;apply hQ;rw [←a6];refine ⟨ρ,Ms,⟨d.size,fun k U=>T.tmp k U ops.size (A k),fun k U=>L.past' eU U⟩,fun k=>d.nb k ops.size (A k),B,d.dfr,d.nd,fun x hx=>?_⟩;obtain ⟨m1,m2,m3⟩:=T.mark x hx;refine ⟨m1,m2,fun b N=>?_⟩;rcases R b N with g|⟨j,c,e,O,S,Z⟩
  ·exact m3 b g
  obtain ⟨_,_,_,_,_,r⟩:=T.made j b c e O S (y j O.1);exact r x hx
 intro l;induction l with
 |zero=>
  intro listed p a w ρ u hf d;have q:GI .any ops listed=[]:=by
   rw [List.eq_nil_iff_forall_not_mem];intro i m;obtain ⟨F,o,Y,_⟩:=mem_ready.1 m;have f:i<listed.size:=by rw [u];exact (Aw.1 Y).1
   simp [f] at F;have:=qL f F;omega
  exact ⟨q,H listed p a w ρ u q d⟩
 |succ l ih=>
  intro listed p a w ρ u hf d;refine ⟨fun q=>H listed p a w ρ u q d,fun i m=>?_⟩;obtain ⟨F,o,Y,a5⟩:=mem_ready.1 m;obtain ⟨a2,rfl⟩:=Aw.1 Y;have f:i<listed.size:=zo;simp [f] at F;have a4:¬xv listed i:=by unfold xv;simp [f,F]
  refine d.step hE hX L a2 a4 a5 fun p' K w' ρ' a0=>?_;have a1:=qL f F;refine ih (listed.setIfInBounds i true) p' K w' ρ' (by simpa using u) zo ?_;have e:(fun j=>xv listed j∨j=i)=xv (listed.setIfInBounds i true):=by
   funext j;unfold xv;by_cases e:j=i
   ·subst e;simp [f]
   simp only [e,or_false];rw [getD_set_ne false (fun h=>e h.symm)]
  rw [←e];exact a0
theorem mW (hE:EnvOk2 X.E X.P)(hX:C.E=X.E)(hC:CalOk X C.C):ui X C ρ0 h0 w0 regOk:=by
 intro ops S B s s' T ro kk a w Q hI hQ;obtain ⟨D,V,d,Z,F⟩:=ziu hE hX hC ops.toList (xA ops.toList []) 0 _ s' (fun o ho=>B o (by simpa using ho)) T;obtain ⟨ρ,Ms,U,hn,R,a0,a1,hM⟩:=hI;have l:gP ops.toList=ops.size:=by simp
 have L:Lx X C ops D V (fun i=>(xA ops.toList []).getD i 0):=by
  refine ⟨fun i g=>?_,fun i g=>?_,fun i g=>?_,S,B,fun k O=>?_,by rw [d],by rw [d],by rw [d]⟩
  ·obtain ⟨m,G,H,_⟩:=F i (by rw [l];exact g);have:(xA ops.toList []).getD i 0=m:=by simp [Ec,G]
   rw [this];simpa using H
  ·obtain ⟨m,G,_,H⟩:=F i (by rw [l];exact g);simpa using H
  ·obtain ⟨m,G,_⟩:=F i (by rw [l];exact g);simp [Ec,G]
  rw [d];exact U.past k O
 have f:∀j,¬xv (C0 ops.size false) j:=fun j=>by
  unfold xv;by_cases h:j<ops.size<;>simp [h]
 have hJ:J X C ops D ρ0 h0 w0 0 (xv (C0 ops.size false)) Ms a {w with drawn:=w.drawn+1} ρ:=by
  refine ⟨gH,fun e W _=>⟨fun h=>eN h (f e),fun h=>eN h (AQ _)⟩,fun j b c e _ h=>eN h (AQ _),fun i g h=>eN h (f i),U.size,a0,a1,fun k q u=>?_,fun i g=>?_,fun j b c e _ h=>eN h (f j),fun e W _ h=>eN h (AQ _),fun ρ' a2=>?_⟩
  ·have Y:nth (D q).s.t k=nth (D 0).s.t k:=by
    have:=L.keep (k:=k) (i:=0) q (by have:=u.1;omega) fun j N _ h2 K=>f j ((u.2 j N K).2 zo);rw [sb] at this;exact this
   rw [Y];have:=L.nle (i:=0) (j:=q) gH u.1;rw [d] at this ⊢;exact (hn k).mono (by simp only at this ⊢;omega)
  ·have:i=0:=zo;subst this;rw [d];exact R.nb
  have A:Agr (3*s.n) ρ ρ':=by have:=a2.1;rw [d] at this;exact this
  refine ⟨?_,fun j b c e _ _ h=>eN h (f j),fun j b c e j' b' c' e' _ _ _ _ h=>eN h (f j),fun k O q u=>?_,fun x hx=>?_⟩
  ·rw [d];have:=R.agr2 A;exact ⟨this.agr,this.le,⟨this.sim.blk,this.sim.inj⟩,this.nb,this.val,this.wlt,this.wmem,this.fr,this.size,this.os,this.tape,this.out,this.new,this.old⟩
  ·have Y:nth (D q).s.t k=nth (D 0).s.t k:=by
    have:=L.keep (k:=k) (i:=0) q (by have:=u.1;omega) fun j N _ h2 K=>f j ((u.2 j N K).2 zo);rw [sb] at this;exact this
   rw [Y,d,hn k ρ ρ' A];exact U.at_ k O
  obtain ⟨m1,m2,m3⟩:=hM x hx;refine ⟨m1,m2,fun b I=>?_⟩;rw [d] at I;obtain ⟨y,hy⟩:=Aq.1 I;rw [(A b (R.nb b y hy).1).1];exact m3 b I
 exact zgj hE hX L (by rw [←Z,l]) hQ ops.size _ 0 a _ ρ gN (by unfold rd;exact Aa List.countP_le_length gN) hJ
end
end Go.GL
/- The evaluator's environment for this seat, laid by program (genenv.py) off the dump; and the proof that it fits the program. -/
namespace Go.Proofs.YtepkmadmigkgmaaGreatDoor
open Go Go.GL
variable {α:Type}{N m:Nat}
namespace GE
def nthO {α:Type}:List (Option α)→Nat→Option α
 |[],_=>none
 |v::_,0=>v
 |_::r,i+1=>nthO r i
def nthL {α:Type}:List (List α)→Nat→List α
 |[],_=>[]
 |v::_,0=>v
 |_::r,i+1=>nthL r i
def look {α:Type}(l:List (List (Option α)))(t:Nat):Option α:=nthO (nthL l (t/20)) (t%20)
def oT:Option TD:=some .other
def oF:Option (Nat×Nat×Value):=some (1,8,.nilFunc)
def oS:Option (Nat×Nat×Value):=some (1,24,gS none 0 0)
def undT:List (List (Option TD)):=[[oT,oT,some (.int .i64),some (.int .i64),some .bool,some (.int .u8),some (.int .u8),some (.struct [(2,0),(3,1),(4,2),(6,3)]),some (.struct [(2,0),(3,1),(4,2),(6,3)]),some .string,some .string,some .string,some (.int .u64),some (.struct [(9,0),(12,1)]),some (.struct [(9,0),(12,1)]),oT,oT,oT,some (.struct [(17,0)]),some (.struct [(17,0)])],
 [oT,some (.int .i32),some (.slice 9),some (.slice 39),some (.struct [(22,0),(23,1),(22,2),(22,3)]),some (.struct [(22,0),(23,1),(22,2),(22,3)]),oT,oT,oT,oT,some (.struct [(3,0),(9,1),(22,2),(22,3),(22,4),(22,5)]),some (.struct [(3,0),(9,1),(22,2),(22,3),(22,4),(22,5)]),some (.int .i64),oT,oT,oT,oT,oT,some (.struct [(22,0),(9,1),(9,2)]),some (.struct [(22,0),(9,1),(9,2)])],
 [oT,some (.slice 172),some (.struct [(4,0),(41,1)]),some (.struct [(4,0),(41,1)]),some (.struct [(43,0),(43,2)]),some (.struct [(43,0),(43,2)]),oT,oT,oT,oT,oT,oT,oT,oT,oT,oT,oT,oT,oT,oT],
 [oT,oT,oT,oT,some (.slice 45),oT,oT,oT,some (.slice 92),some (.slice 130),some (.struct [(68,0),(69,1),(69,2)]),some (.struct [(68,0),(69,1),(69,2)]),oT,oT,oT,oT,oT,oT,oT,oT],
 [oT,some (.slice 128),some (.slice 3),some (.slice 90),some (.slice 196),some (.struct [(4,0),(84,1)]),some (.struct [(4,0),(84,1)]),some (.struct [(3,0),(68,1),(81,2),(81,3),(68,4),(82,5),(82,6),(83,7),(86,8)]),some (.struct [(3,0),(68,1),(81,2),(81,3),(68,4),(82,5),(82,6),(83,7),(86,8)]),oT,some (.slice 86),some (.struct [(86,0),(86,2)]),some (.struct [(86,0),(86,2)]),oT,oT,oT,oT,oT,oT,oT],
 [some (.struct [(2,0),(2,1)]),some (.struct [(2,0),(2,1)]),oT,oT,oT,oT,oT,oT,oT,oT,oT,oT,oT,oT,oT,oT,oT,oT,oT,oT],
 [oT,some (.slice 22),oT,oT,oT,oT,oT,some (.struct [(4,0),(92,1)]),some (.struct [(4,0),(92,1)]),some (.struct [(68,0),(128,1),(128,6)]),some (.struct [(68,0),(128,1),(128,6)]),oT,oT,oT,oT,oT,some (.struct [(4,0),(9,1),(9,2)]),some (.struct [(4,0),(9,1),(9,2)]),oT,oT],
 [oT,oT,oT,oT,oT,oT,oT,oT,oT,oT,oT,oT,oT,oT,oT,oT,oT,oT,oT,oT],
 [oT,oT,some (.slice 5),oT,oT,some (.array 48 5),oT,oT,oT,oT,oT,oT,some (.int .u32),oT,oT,oT,oT,oT,oT,oT],
 [oT,oT,oT,oT,oT,oT,oT,oT,oT,oT,oT,oT,oT,oT,oT,oT,some (.int .u64),oT,oT,oT],
 [some (.struct [(84,0),(84,1)]),some (.struct [(84,0),(84,1)]),oT,oT,oT,oT,oT,oT,some (.int .u64),oT,oT,oT,oT,oT,oT,oT,some (.array 24 5),oT,oT,oT],
 [oT,some (.slice 84),oT,oT,some (.struct [(196,0),(196,1),(196,2),(196,3),(4,4)]),some (.struct [(196,0),(196,1),(196,2),(196,3),(4,4)]),oT,oT,oT,oT,oT,oT,oT,oT,oT,oT,oT,oT,oT,oT],
 [oT,oT,oT,some (.array 20 196),some (.array 65 5),oT,oT,oT,oT,oT,oT,oT,oT,oT,oT,oT,oT,oT,some (.array 64 5),oT],
 [oT,some (.array 20 5),some (.array 32 5),oT,oT,oT,oT,oT,some (.struct [(17,0),(17,1),(17,2),(9,3)]),some (.struct [(17,0),(17,1),(17,2),(9,3)]),some (.array 0 16),some (.struct [(270,0)]),some (.struct [(270,0)]),some (.int .u8),some (.int .u8),oT,oT,some (.int .i32),some (.int .i32),some (.struct [(12,0),(12,1),(172,2),(273,3),(5,4),(5,5),(274,6),(275,7),(276,8),(277,9),(278,10)])],
 [some (.struct [(12,0),(12,1),(172,2),(273,3),(5,4),(5,5),(274,6),(275,7),(276,8),(277,9),(278,10)]),oT,some (.struct [(9,0)]),some (.struct [(9,0)]),oT]]
def infT:List (List (Option (Nat×Nat×Value))):=[[some (1,0,.tuple #[]),oF,some (1,8,gZ .i64 0),some (1,8,gZ .i64 0),some (1,1,jx false),some (1,1,gZ .u8 0),some (1,1,gZ .u8 0),some (4,24,.agg #[gZ .i64 0,gZ .i64 0,jx false,gZ .u8 0]),some (4,24,.agg #[gZ .i64 0,gZ .i64 0,jx false,gZ .u8 0]),some (1,16,jy ⟨⟨[]⟩⟩),some (1,16,jy ⟨⟨[]⟩⟩),some (1,16,jy ⟨⟨[]⟩⟩),some (1,8,gZ .u64 0),some (2,24,.agg #[jy ⟨⟨[]⟩⟩,gZ .u64 0]),some (2,24,.agg #[jy ⟨⟨[]⟩⟩,gZ .u64 0]),some (1,8,mo none),some (1,8,mo none),some (1,8,mo none),some (1,8,.agg #[mo none]),some (1,8,.agg #[mo none])],
 [some (1,16,.nilIface),some (1,4,gZ .i32 0),oS,oS,some (4,96,.agg #[gS none 0 0,gS none 0 0,gS none 0 0,gS none 0 0]),some (4,96,.agg #[gS none 0 0,gS none 0 0,gS none 0 0,gS none 0 0]),oF,oF,oF,oF,some (6,120,.agg #[gZ .i64 0,jy ⟨⟨[]⟩⟩,gS none 0 0,gS none 0 0,gS none 0 0,gS none 0 0]),some (6,120,.agg #[gZ .i64 0,jy ⟨⟨[]⟩⟩,gS none 0 0,gS none 0 0,gS none 0 0,gS none 0 0]),some (1,8,gZ .i64 0),none,oF,oF,oF,oF,some (3,56,.agg #[gS none 0 0,jy ⟨⟨[]⟩⟩,jy ⟨⟨[]⟩⟩]),some (3,56,.agg #[gS none 0 0,jy ⟨⟨[]⟩⟩,jy ⟨⟨[]⟩⟩])],
 [oF,oS,some (2,32,.agg #[jx false,gS none 0 0]),some (2,32,.agg #[jx false,gS none 0 0]),some (4,64,.agg #[jx false,gS none 0 0,jx false,gS none 0 0]),some (4,64,.agg #[jx false,gS none 0 0,jx false,gS none 0 0]),oF,oF,oF,oF,oF,oF,oF,none,oF,none,oF,oF,oF,oF],
 [oF,oF,oF,oF,oS,none,oF,oF,oS,oS,some (3,72,.agg #[gS none 0 0,gS none 0 0,gS none 0 0]),some (3,72,.agg #[gS none 0 0,gS none 0 0,gS none 0 0]),none,oF,some (1,8,mo none),oF,none,oF,none,oF],
 [oF,oS,oS,oS,oS,some (2,32,.agg #[jx false,gS none 0 0]),some (2,32,.agg #[jx false,gS none 0 0]),some (10,208,.agg #[gZ .i64 0,gS none 0 0,gS none 0 0,gS none 0 0,gS none 0 0,gS none 0 0,gS none 0 0,gS none 0 0,jx false,gS none 0 0]),some (10,208,.agg #[gZ .i64 0,gS none 0 0,gS none 0 0,gS none 0 0,gS none 0 0,gS none 0 0,gS none 0 0,gS none 0 0,jx false,gS none 0 0]),oF,oS,some (4,64,.agg #[jx false,gS none 0 0,jx false,gS none 0 0]),some (4,64,.agg #[jx false,gS none 0 0,jx false,gS none 0 0]),none,oF,oF,oF,oF,oF,oF],
 [some (2,16,.agg #[gZ .i64 0,gZ .i64 0]),some (2,16,.agg #[gZ .i64 0,gZ .i64 0]),none,oF,oF,oF,oF,oF,oF,oF,none,oF,none,oF,oF,oF,oF,oF,oF,oF],
 [oF,oS,none,oF,oF,oF,oF,some (5,72,.agg #[jx false,jx false,gS none 0 0,jx false,gS none 0 0]),some (5,72,.agg #[jx false,jx false,gS none 0 0,jx false,gS none 0 0]),some (11,168,.agg #[gS none 0 0,jx false,jx false,gS none 0 0,jx false,gS none 0 0,jx false,jx false,gS none 0 0,jx false,gS none 0 0]),some (11,168,.agg #[gS none 0 0,jx false,jx false,gS none 0 0,jx false,gS none 0 0,jx false,jx false,gS none 0 0,jx false,gS none 0 0]),oF,oF,oF,none,oF,some (3,40,.agg #[jx false,jy ⟨⟨[]⟩⟩,jy ⟨⟨[]⟩⟩]),some (3,40,.agg #[jx false,jy ⟨⟨[]⟩⟩,jy ⟨⟨[]⟩⟩]),none,oF],
 [oF,oF,oF,none,oF,none,oF,oF,oF,oF,none,oF,oF,oF,oF,oF,oF,oF,oF,oF],
 [none,oF,oS,oF,oF,some (48,48,.agg ⟨ns 48 (gZ .u8 0)⟩),oF,none,oF,none,oF,oF,some (1,4,gZ .u32 0),none,oF,oF,oF,oF,oF,none],
 [oF,oF,none,oF,oF,oF,oF,oF,oF,oF,none,oF,none,oF,oF,oF,some (1,8,gZ .u64 0),none,oF,oF],
 [some (2,48,.agg #[gS none 0 0,gS none 0 0]),some (2,48,.agg #[gS none 0 0,gS none 0 0]),oF,oF,oF,oF,oF,oF,some (1,8,gZ .u64 0),oF,none,oF,oF,oF,oF,oF,some (24,24,.agg ⟨ns 24 (gZ .u8 0)⟩),oF,oF,none],
 [oF,oS,oF,oF,some (5,40,.agg #[gZ .u64 0,gZ .u64 0,gZ .u64 0,gZ .u64 0,jx false]),some (5,40,.agg #[gZ .u64 0,gZ .u64 0,gZ .u64 0,gZ .u64 0,jx false]),oF,none,oF,oF,oF,oF,oF,some (1,8,mo none),oF,oF,oF,oF,oF,oF],
 [oF,oF,oF,some (20,160,.agg ⟨ns 20 (gZ .u64 0)⟩),some (65,65,.agg ⟨ns 65 (gZ .u8 0)⟩),oF,none,oF,oF,oF,oF,oF,oF,oF,oF,none,oF,oF,some (64,64,.agg ⟨ns 64 (gZ .u8 0)⟩),some (1,16,.nilIface)],
 [some (1,16,.nilIface),some (20,20,.agg ⟨ns 20 (gZ .u8 0)⟩),some (32,32,.agg ⟨ns 32 (gZ .u8 0)⟩),none,oF,none,oF,some (1,8,mo none),some (4,40,.agg #[mo none,mo none,mo none,jy ⟨⟨[]⟩⟩]),some (4,40,.agg #[mo none,mo none,mo none,jy ⟨⟨[]⟩⟩]),some (0,0,.agg #[]),some (0,0,.agg #[]),some (0,0,.agg #[]),some (1,1,gZ .u8 0),some (1,1,gZ .u8 0),oF,some (1,8,mo none),some (1,4,gZ .i32 0),some (1,4,gZ .i32 0),some (11,48,.agg #[gZ .u64 0,gZ .u64 0,gZ .u32 0,gZ .u8 0,gZ .u8 0,gZ .u8 0,gZ .u8 0,.nilFunc,mo none,gZ .i32 0,gZ .i32 0])],
 [some (11,48,.agg #[gZ .u64 0,gZ .u64 0,gZ .u32 0,gZ .u8 0,gZ .u8 0,gZ .u8 0,gZ .u8 0,.nilFunc,mo none,gZ .i32 0,gZ .i32 0]),oF,some (1,16,.agg #[jy ⟨⟨[]⟩⟩]),some (1,16,.agg #[jy ⟨⟨[]⟩⟩]),some (1,8,mo none)]]
def cmpT:List (List (Option (List (TypeId×Nat)))):=[[],
 [],
 [],
 [],
 [],
 [],
 [],
 [],
 [],
 [],
 [],
 [],
 [],
 [],
 []]
open Tryz in
noncomputable def fnT:List (List (Option Func)):=[[none,none,none,some f3,some f4,some f5,some f6,some f7,some f8,some f9,some f10,some f11,some f12,some f13,some f14,some f15,some f16,some f17,some f18,some f19],
 [some f20,some f21,some f22,some f23,some f24,some f25,some f26,some f27,some f28,some f29,some f30,some f31,some f32,some f33,some f34,some f35,some f36,some f37,some f38,some f39],
 [some f40,some f41,some f42,some f43,some f44,some f45,some f46,some f47,some f48,some f49,some f50,some f51,some f52,some f53,some f54,some f55,some f56,some f57,some f58,some f59],
 [some f60,some f61,some f62,some f63,some f64,some f65,some f66,some f67,some f68,some f69,some f70,some f71,some f72,some f73,some f74,some f75,some f76,some f77,some f78,some f79],
 [some f80,some f81,some f82,some f83,some f84,some f85,some f86,some f87,some f88,some f89,some f90,some f91,some f92,some f93,some f94,some f95,some f96,some f97,some f98,some f99],
 [some f100,some f101,some f102,some f103,some f104,some f105,some f106,some f107,some f108,some f109,some f110,some f111,some f112,some f113,some f114,some f115,some f116,some f117,some f118,some f119],
 [some f120,some f121,some f122,some f123,some f124,some f125,some f126,some f127,some f128,some f129,some f130,some f131,some f132,some f133,some f134,some f135,some f136,some f137,some f138,some f139],
 [some f140,some f141,some f142,some f143,some f144,some f145,some f146,some f147,some f148,some f149,some f150,some f151,some f152,some f153,some f154,some f155,some f156,some f157,some f158,some f159],
 [some f160,some f161,some f162,some f163,some f164,some f165,some f166,some f167,some f168,some f169,some f170,some f171,some f172,some f173,some f174,some f175,some f176,some f177,some f178,some f179],
 [some f180,some f181,some f182,some f183,some f184,some f185,some f186,some f187,some f188,some f189,some f190,some f191,some f192,some f193,some f194,some f195,some f196,some f197,some f198,some f199],
 [some f200,some f201,some f202,some f203,none,some f205,some f206,none,some f208,some f209,some f210,some f211,some f212,some f213,some f214,some f215,some f216,some f217,some f218,some f219],
 [some f220,some f221,some f222,some f223,some f224,some f225,none,none,none,none,none,none,none,none,none,none,none,none,none,none],
 []]
def ext (f:FuncId)(a:List Value):Option Value:=
 match AD f 207 with
 |true=>(match a with
  |[gZ .u64 (.ofNat x),gZ .u64 (.ofNat y),gZ .u64 (.ofNat c)]=>(match Ag c 1 with|true=>some (.tuple ⟨[gZ .u64 (.ofNat ((x+y+c)%18446744073709551616)),gZ .u64 (.ofNat ((x+y+c)/18446744073709551616))]⟩)|false=>none)
  |_=>none)
 |false=>match AD f 204 with
  |true=>(match a with
   |[gZ .u64 (.ofNat x),gZ .u64 (.ofNat y),gZ .u64 (.ofNat b)]=>(match Ag b 1 with|true=>some (.tuple ⟨[gZ .u64 (.ofNat ((x+18446744073709551616-y-b)%18446744073709551616)),gZ .u64 (.ofNat (match Ag (y+b) x with|true=>0|false=>1))]⟩)|false=>none)
   |_=>none)
  |false=>none
end GE
noncomputable def env:Env:={und:=GE.look GE.undT,inf:=GE.look GE.infT,fn:=GE.look GE.fnT,ext:=GE.ext,dT:=9,pure:=fun _=>true,cmp:=GE.look GE.cmpT}
namespace GE
theorem zd9:∀(l:List (List α)) (i:Nat),gP l≤i→nthL l i=[]:=by
 intro l
 induction l with
 |nil=>intro i _;rfl
 |cons a l ih=>
  intro i b
  cases i with
  |zero=>simp at b
  |succ i=>exact ih i (by simpa using b)
theorem look_lt {l:List (List (Option α))}{t:Nat}{v:α}(hm:gP l=m)(h:look l t=some v):t<20*m:=by
 apply Cw
 intro a
 unfold look at h
 rw [zd9 l (t/20) zo] at h
 cases h
def pick {α β:Type}(a:Option α)(b:Option β):Option β:=match a with|some _=>b|none=>none
theorem at_range {f g:Nat→α}(h:(AI N).map f=(AI N).map g){t:Nat}(a:t<N):f t=g t:=by
 have:=congrArg (fun l=>l[t]?) h
 simpa [a] using this
theorem all_range {f:Nat→Bool}(h:(AI N).all f=true){t:Nat}(a:t<N):f t=true:=by
 rw [BP] at h
 exact h t (by simpa using a)
theorem undT_len:gP undT=15:=rfl
theorem cmpT_len:gP cmpT=15:=rfl
theorem infT_len:gP infT=15:=rfl
theorem fnT_len:gP fnT=13:=rfl
set_option maxRecDepth 1000000
theorem und_all:(AI 300).map (fun t=>pick (look undT t) ((sP.underlying t).map TD.of))=(AI 300).map (look undT):=by kernel_rfl
theorem inf_all:(AI 300).map (fun t=>pick (look infT t) ((sP.info? t).bind fun i=>i.zero.map fun z=>(i.size,i.bytes,z)))=(AI 300).map (look infT):=by kernel_rfl
noncomputable def cmpP (t:Nat):Option (List (TypeId×Nat)):=
 match sP.underlying t with
 |some (.struct F)=>(match F.toList.all (fun f=> !(f.name== "_"))&&(!Tryz.prog.stoodInHeld t&& !Tryz.prog.eqGuardType sP.depth t) with|true=>some (F.toList.map fun f=>(f.type,f.offset))|false=>none)
 |_=>none
theorem cmp_all:(AI 300).map (fun t=>pick (look cmpT t) (cmpP t))=(AI 300).map (look cmpT):=by kernel_rfl
theorem inf_closed:(AI 300).all (fun t=>match look infT t with|some (_,_,z)=>closed z|none=>true)=true:=by kernel_rfl
theorem fld_all:(AI 300).all (fun t=>match look undT t with|some (.struct fs)=>fs.all (fun f=>(look infT f.1).isSome)|_=>true)=true:=by kernel_rfl
theorem fn_all:(AI 260).map (fun f=>pick (look fnT f) (sP.funcs[f]?))=(AI 260).map (look fnT):=by kernel_rfl
theorem fn_body:(AI 260).all (fun f=>match look fnT f with|some fn=>fn.body.isSome&& !(fn.name== "runtime.NumGoroutine")|none=>true)=true:=by kernel_rfl
theorem fn_code:(AI 260).all (fun f=>match look fnT f with|some fn=>(match fn.body with|some c=>xf regOk c|none=>true)|none=>true)=true:=by kernel_rfl
theorem mixed:sP.follows .mixedOrders=true:=by kernel_rfl
theorem zjn (x y:Nat)(w:World):(callFunc 207 #[gZ .u64 (.ofNat x),gZ .u64 (.ofNat y),gZ .u64 (.ofNat 0)]).run sP w=.ok (.value (.tuple ⟨[gZ .u64 (.ofNat ((x+y+0)%18446744073709551616)),gZ .u64 (.ofNat ((x+y+0)/18446744073709551616))]⟩)) w:=by kernel_rfl
theorem zjm (x y:Nat)(w:World):(callFunc 207 #[gZ .u64 (.ofNat x),gZ .u64 (.ofNat y),gZ .u64 (.ofNat 1)]).run sP w=.ok (.value (.tuple ⟨[gZ .u64 (.ofNat ((x+y+1)%18446744073709551616)),gZ .u64 (.ofNat ((x+y+1)/18446744073709551616))]⟩)) w:=by kernel_rfl
theorem zoe (x y c:Nat)(b:c≤1)(w:World):(callFunc 207 #[gZ .u64 (.ofNat x),gZ .u64 (.ofNat y),gZ .u64 (.ofNat c)]).run sP w=.ok (.value (.tuple ⟨[gZ .u64 (.ofNat ((x+y+c)%18446744073709551616)),gZ .u64 (.ofNat ((x+y+c)/18446744073709551616))]⟩)) w:=by
 have a:c=0∨c=1:=zo
 rcases a with rfl|rfl
 ·exact zjn x y w
 exact zjm x y w
theorem zg9 (x y:Nat)(w:World):(callFunc 204 #[gZ .u64 (.ofNat x),gZ .u64 (.ofNat y),gZ .u64 (.ofNat 0)]).run sP w=.ok (.value (.tuple ⟨[gZ .u64 (.ofNat ((x+18446744073709551616-y-0)%18446744073709551616)),gZ .u64 (.ofNat (if x<y+0 then 1 else 0))]⟩)) w:=by kernel_rfl
theorem zg8 (x y:Nat)(w:World):(callFunc 204 #[gZ .u64 (.ofNat x),gZ .u64 (.ofNat y),gZ .u64 (.ofNat 1)]).run sP w=.ok (.value (.tuple ⟨[gZ .u64 (.ofNat ((x+18446744073709551616-y-1)%18446744073709551616)),gZ .u64 (.ofNat (if x<y+1 then 1 else 0))]⟩)) w:=by kernel_rfl
theorem zl4 (x y c:Nat)(b:c≤1)(w:World):(callFunc 204 #[gZ .u64 (.ofNat x),gZ .u64 (.ofNat y),gZ .u64 (.ofNat c)]).run sP w=.ok (.value (.tuple ⟨[gZ .u64 (.ofNat ((x+18446744073709551616-y-c)%18446744073709551616)),gZ .u64 (.ofNat (match Ag (y+c) x with|true=>0|false=>1))]⟩)) w:=by
 have a:c=0∨c=1:=zo
 have e:(match Ag (y+c) x with|true=>0|false=>1)=if x<y+c then 1 else 0:=by
  by_cases h:x<y+c
  ·have:Ag (y+c) x=false:=by
    cases hb:Ag (y+c) x with
    |false=>rfl
    |true=>have:=tu hb;omega
   rw [this,eS h]
  rw [oo zo,eP h]
 rw [e]
 rcases a with rfl|rfl
 ·exact zg9 x y w
 exact zg8 x y w
theorem ext_ok (f:FuncId)(a:List Value)(v:Value)(h:ext f a=some v):(∀x∈a,closed x=true)∧closed v=true∧∀w,(callFunc f a.toArray).run sP w=.ok (.value v) w:=by
 unfold ext at h
 split at h
 ·rename_i b
  have b:=Ay b
  subst b
  split at h
  ·rename_i x y c
   split at h
   ·rename_i hc
    injection h with h
    subst h
    exact ⟨fun z d=>by simp at d;rcases d with rfl|rfl|rfl<;>rfl,rfl,fun w=>zoe x y c (tu hc) w⟩
   cases h
  cases h
 split at h
 ·rename_i b
  have b:=Ay b
  subst b
  split at h
  ·rename_i x y c
   split at h
   ·rename_i hc
    injection h with h
    subst h
    exact ⟨fun z d=>by simp at d;rcases d with rfl|rfl|rfl<;>rfl,rfl,fun w=>zl4 x y c (tu hc) w⟩
   cases h
  cases h
 cases h
end GE
theorem bK:EnvOk2 env sP where
 und t d h:=by
  have hlt:=GE.look_lt GE.undT_len h
  have e:=GE.at_range GE.und_all hlt
  rw [show GE.look GE.undT t=some d from h] at e
  simp only [GE.pick,A7] at e
  exact e
 fld t fs h f hf:=by
  have hlt:=GE.look_lt GE.undT_len h
  have e:=GE.all_range GE.fld_all hlt
  rw [show GE.look GE.undT t=some (.struct fs) from h] at e
  simp only [BP] at e
  exact Aq.1 (e f hf)
 inf t s b z h:=by
  have hlt:=GE.look_lt GE.infT_len h
  have e:=GE.at_range GE.inf_all hlt
  have c:=GE.all_range GE.inf_closed hlt
  rw [show GE.look GE.infT t=some (s,b,z) from h] at e c
  simp only [GE.pick,Option.bind_eq_some_iff,A7,Prod.mk.injEq] at e
  obtain ⟨i,h1,z',h2,h3,h4,h5⟩:=e
  subst h5
  exact ⟨⟨i,h1,h3,h4,h2⟩,c⟩
 cmp t fs h:=by
  have hlt:=GE.look_lt GE.cmpT_len h
  have e:=GE.at_range GE.cmp_all hlt
  rw [show GE.look GE.cmpT t=some fs from h] at e
  simp only [GE.pick] at e
  unfold GE.cmpP at e
  split at e
  ·rename_i F hF
   split at e
   ·rename_i hc
    injection e with e
    simp only [AA,BT,BP] at hc
    exact ⟨F,hF,e.symm,fun f hf=>by simpa using hc.1 f hf,hc.2.1,hc.2.2⟩
   cases e
  cases e
 get f fn h:=by
  have hlt:=GE.look_lt GE.fnT_len h
  have e:=GE.at_range GE.fn_all hlt
  rw [show GE.look GE.fnT f=some fn from h] at e
  exact e
 ent f fn h args w:=by
  have hlt:=GE.look_lt GE.fnT_len h
  have e:=GE.at_range GE.fn_all hlt
  have c:=GE.all_range GE.fn_body hlt
  rw [show GE.look GE.fnT f=some fn from h] at e c
  have e:sP.funcs[f]?=some fn:=e
  simp only [AA,BT] at c
  obtain ⟨b,hb⟩:=Aq.1 c.1
  have c2:¬fn.name= "runtime.NumGoroutine" :=by simpa using c.2
  simp [callFunc,e,c2,hb]
 ext f args v h:=GE.ext_ok f args v h
 mixed:=GE.mixed
theorem bM:∀f a c,env.fn f=some a→a.body=some c→xf regOk c=true:=fun f a c h d=>by
 have b:=GE.look_lt GE.fnT_len h
 have e:=GE.all_range GE.fn_code b
 rw [show GE.look GE.fnT f=some a from h] at e
 simp only [d] at e
 exact e
noncomputable def rel:Rel:={E:=env,P:=sP,ok:=fun c=>xf regOk c=true}
theorem zri (L d:Nat):CalOk rel (calN env L d):=
 zb5 (X:=rel) (reg:=regOk) bK L (fun _=>Iff.rfl) bM (fun C f c e b a=>mW bK b a) d
end Go.Proofs.YtepkmadmigkgmaaGreatDoor
