import Derived.Test.YtdcfbgmbaniglaaGreatDoorProg
import Derived.KernelRfl
import Derived.Test.YtdcfbgmbaniglaaGreatDoorExtA
set_option maxHeartbeats 8000000
set_option linter.unusedVariables false
set_option linter.unusedSimpArgs false
/- The evaluator's environment for this seat, laid by program (genenv.py) off the dump; and the proof that it fits the program. -/
namespace Go.Proofs.YtdcfbgmbaniglaaGreatDoor
open Go Go.GL
variable {α:Type}{N m:Nat}
namespace GE
def nthO {α:Type}:List (Option α)→Nat→Option α
 |[],_=>none
 |v::_,0=>v
 |_::r,i+1=>nthO r i
def nthL {α:Type}:List (List α)→Nat→List α
 |[],_=>[]
 |v::_,0=>v
 |_::r,i+1=>nthL r i
def look {α:Type}(l:List (List (Option α)))(t:Nat):Option α:=nthO (nthL l (t/20)) (t%20)
def oT:Option TD:=some .other
def oF:Option (Nat×Nat×Value):=some (1,8,.nilFunc)
def oS:Option (Nat×Nat×Value):=some (1,24,.slice none 0 0)
def undT:List (List (Option TD)):=[[oT,oT,some (.int .i64),some (.int .i64),some .bool,some (.int .u8),some (.int .u8),some (.struct [(2,0),(3,1),(4,2),(6,3)]),some (.struct [(2,0),(3,1),(4,2),(6,3)]),some .string,some .string,some .string,some (.int .u64),some (.struct [(9,0),(12,1)]),some (.struct [(9,0),(12,1)]),oT,oT,oT,some (.struct [(17,0)]),some (.struct [(17,0)])],
 [oT,some (.int .i32),some (.slice 9),oT,oT,some (.slice 111),some (.struct [(22,0),(25,1),(22,2),(22,3)]),some (.struct [(22,0),(25,1),(22,2),(22,3)]),oT,oT,oT,some (.struct [(3,0),(9,1),(22,2),(22,3),(22,4),(22,5)]),some (.struct [(3,0),(9,1),(22,2),(22,3),(22,4),(22,5)]),some (.int .i64),oT,oT,oT,some (.slice 22),oT,oT],
 [some (.struct [(2,0),(2,1)]),some (.struct [(2,0),(2,1)]),oT,oT,oT,some (.slice 129),some (.struct [(4,0),(45,1)]),some (.struct [(4,0),(45,1)]),some (.struct [(47,0),(47,2)]),some (.struct [(47,0),(47,2)]),oT,oT,oT,oT,some (.slice 49),some (.slice 107),some (.struct [(54,0),(55,1),(55,2)]),some (.struct [(54,0),(55,1),(55,2)]),oT,oT],
 [oT,oT,oT,oT,oT,oT,oT,some (.slice 105),some (.slice 3),some (.slice 73),some (.struct [(3,0),(54,1),(67,2),(67,3),(54,4),(68,5),(68,6),(69,7),(47,8)]),some (.struct [(3,0),(54,1),(67,2),(67,3),(54,4),(68,5),(68,6),(69,7),(47,8)]),oT,some (.slice 47),oT,oT,oT,oT,oT,oT],
 [oT,oT,oT,some (.array 48 5),some (.slice 5),oT,oT,oT,oT,oT,oT,oT,oT,oT,some (.struct [(4,0),(9,1),(9,2)]),some (.struct [(4,0),(9,1),(9,2)]),oT,oT,oT,oT],
 [oT,oT,oT,oT,some (.struct [(4,0),(49,1)]),some (.struct [(4,0),(49,1)]),some (.struct [(54,0),(105,1),(105,6)]),some (.struct [(54,0),(105,1),(105,6)]),oT,oT,some (.struct [(22,0),(9,1),(9,2)]),some (.struct [(22,0),(9,1),(9,2)]),oT,oT,oT,oT,oT,oT,oT,oT],
 [oT,oT,oT,oT,oT,oT,oT,oT,oT,some (.int .u64),oT,oT,oT,oT,oT,oT,oT,oT,oT,oT],
 [oT,some (.struct [(45,0),(45,1)]),some (.struct [(45,0),(45,1)]),oT,oT,oT,oT,some (.array 24 5),oT,oT,oT,oT,oT,oT,oT,oT,oT,oT,some (.struct [(129,0),(129,1),(129,2),(129,3),(4,4)]),some (.struct [(129,0),(129,1),(129,2),(129,3),(4,4)])],
 [oT,oT,oT,oT,oT,some (.slice 45),oT,oT,oT,oT,oT,oT,oT,some (.array 20 129),some (.int .u32),some (.array 65 5),some (.int .u64),oT,oT,oT],
 [oT,oT,oT,oT,oT,oT,oT,oT,oT,oT,some (.array 64 5),oT,oT,some (.array 20 5),some (.array 32 5),oT,oT,oT,oT,oT],
 [some (.struct [(17,0),(17,1),(17,2),(9,3)]),some (.struct [(17,0),(17,1),(17,2),(9,3)]),some (.array 0 16),some (.struct [(202,0)]),some (.struct [(202,0)]),some (.int .u8),some (.int .u8),oT,oT,some (.int .i32),some (.int .i32),some (.struct [(12,0),(12,1),(174,2),(205,3),(5,4),(5,5),(206,6),(207,7),(208,8),(209,9),(210,10)]),some (.struct [(12,0),(12,1),(174,2),(205,3),(5,4),(5,5),(206,6),(207,7),(208,8),(209,9),(210,10)]),oT,oT,oT,some (.struct [(9,0)]),some (.struct [(9,0)]),oT]]
def infT:List (List (Option (Nat×Nat×Value))):=[[some (1,0,.tuple #[]),oF,some (1,8,.int .i64 0),some (1,8,.int .i64 0),some (1,1,.bool false),some (1,1,.int .u8 0),some (1,1,.int .u8 0),some (4,24,.agg #[.int .i64 0,.int .i64 0,.bool false,.int .u8 0]),some (4,24,.agg #[.int .i64 0,.int .i64 0,.bool false,.int .u8 0]),some (1,16,.string ⟨⟨[]⟩⟩),some (1,16,.string ⟨⟨[]⟩⟩),some (1,16,.string ⟨⟨[]⟩⟩),some (1,8,.int .u64 0),some (2,24,.agg #[.string ⟨⟨[]⟩⟩,.int .u64 0]),some (2,24,.agg #[.string ⟨⟨[]⟩⟩,.int .u64 0]),some (1,8,.pointer none),some (1,8,.pointer none),some (1,8,.pointer none),some (1,8,.agg #[.pointer none]),some (1,8,.agg #[.pointer none])],
 [some (1,16,.nilIface),some (1,4,.int .i32 0),oS,oF,oF,oS,some (4,96,.agg #[.slice none 0 0,.slice none 0 0,.slice none 0 0,.slice none 0 0]),some (4,96,.agg #[.slice none 0 0,.slice none 0 0,.slice none 0 0,.slice none 0 0]),oF,oF,oF,some (6,120,.agg #[.int .i64 0,.string ⟨⟨[]⟩⟩,.slice none 0 0,.slice none 0 0,.slice none 0 0,.slice none 0 0]),some (6,120,.agg #[.int .i64 0,.string ⟨⟨[]⟩⟩,.slice none 0 0,.slice none 0 0,.slice none 0 0,.slice none 0 0]),some (1,8,.int .i64 0),none,oF,oF,oS,oF,oF],
 [some (2,16,.agg #[.int .i64 0,.int .i64 0]),some (2,16,.agg #[.int .i64 0,.int .i64 0]),none,oF,oF,oS,some (2,32,.agg #[.bool false,.slice none 0 0]),some (2,32,.agg #[.bool false,.slice none 0 0]),some (4,64,.agg #[.bool false,.slice none 0 0,.bool false,.slice none 0 0]),some (4,64,.agg #[.bool false,.slice none 0 0,.bool false,.slice none 0 0]),oF,oF,oF,oF,oS,oS,some (3,72,.agg #[.slice none 0 0,.slice none 0 0,.slice none 0 0]),some (3,72,.agg #[.slice none 0 0,.slice none 0 0,.slice none 0 0]),none,oF],
 [some (1,8,.pointer none),oF,none,oF,none,oF,oF,oS,oS,oS,some (10,208,.agg #[.int .i64 0,.slice none 0 0,.slice none 0 0,.slice none 0 0,.slice none 0 0,.slice none 0 0,.slice none 0 0,.slice none 0 0,.bool false,.slice none 0 0]),some (10,208,.agg #[.int .i64 0,.slice none 0 0,.slice none 0 0,.slice none 0 0,.slice none 0 0,.slice none 0 0,.slice none 0 0,.slice none 0 0,.bool false,.slice none 0 0]),oF,oS,none,oF,oF,oF,oF,none],
 [oF,oF,oF,some (48,48,.agg ⟨List.replicate 48 (.int .u8 0)⟩),oS,oF,none,oF,oF,oF,none,oF,oF,oF,some (3,40,.agg #[.bool false,.string ⟨⟨[]⟩⟩,.string ⟨⟨[]⟩⟩]),some (3,40,.agg #[.bool false,.string ⟨⟨[]⟩⟩,.string ⟨⟨[]⟩⟩]),none,oF,oF,none],
 [oF,oF,none,oF,some (5,72,.agg #[.bool false,.bool false,.slice none 0 0,.bool false,.slice none 0 0]),some (5,72,.agg #[.bool false,.bool false,.slice none 0 0,.bool false,.slice none 0 0]),some (11,168,.agg #[.slice none 0 0,.bool false,.bool false,.slice none 0 0,.bool false,.slice none 0 0,.bool false,.bool false,.slice none 0 0,.bool false,.slice none 0 0]),some (11,168,.agg #[.slice none 0 0,.bool false,.bool false,.slice none 0 0,.bool false,.slice none 0 0,.bool false,.bool false,.slice none 0 0,.bool false,.slice none 0 0]),none,oF,some (3,56,.agg #[.slice none 0 0,.string ⟨⟨[]⟩⟩,.string ⟨⟨[]⟩⟩]),some (3,56,.agg #[.slice none 0 0,.string ⟨⟨[]⟩⟩,.string ⟨⟨[]⟩⟩]),oF,oF,oF,none,oF,oF,oF,oF],
 [oF,oF,oF,oF,oF,oF,oF,oF,oF,some (1,8,.int .u64 0),oF,none,oF,none,oF,oF,oF,none,oF,oF],
 [oF,some (2,48,.agg #[.slice none 0 0,.slice none 0 0]),some (2,48,.agg #[.slice none 0 0,.slice none 0 0]),oF,oF,oF,oF,some (24,24,.agg ⟨List.replicate 24 (.int .u8 0)⟩),oF,oF,none,oF,oF,oF,oF,oF,oF,oF,some (5,40,.agg #[.int .u64 0,.int .u64 0,.int .u64 0,.int .u64 0,.bool false]),some (5,40,.agg #[.int .u64 0,.int .u64 0,.int .u64 0,.int .u64 0,.bool false])],
 [oF,none,oF,oF,oF,oS,oF,oF,oF,some (1,8,.pointer none),oF,oF,oF,some (20,160,.agg ⟨List.replicate 20 (.int .u64 0)⟩),some (1,4,.int .u32 0),some (65,65,.agg ⟨List.replicate 65 (.int .u8 0)⟩),some (1,8,.int .u64 0),oF,none,oF],
 [oF,oF,oF,oF,oF,oF,oF,none,oF,oF,some (64,64,.agg ⟨List.replicate 64 (.int .u8 0)⟩),some (1,16,.nilIface),some (1,16,.nilIface),some (20,20,.agg ⟨List.replicate 20 (.int .u8 0)⟩),some (32,32,.agg ⟨List.replicate 32 (.int .u8 0)⟩),none,oF,none,oF,some (1,8,.pointer none)],
 [some (4,40,.agg #[.pointer none,.pointer none,.pointer none,.string ⟨⟨[]⟩⟩]),some (4,40,.agg #[.pointer none,.pointer none,.pointer none,.string ⟨⟨[]⟩⟩]),some (0,0,.agg #[]),some (0,0,.agg #[]),some (0,0,.agg #[]),some (1,1,.int .u8 0),some (1,1,.int .u8 0),oF,some (1,8,.pointer none),some (1,4,.int .i32 0),some (1,4,.int .i32 0),some (11,48,.agg #[.int .u64 0,.int .u64 0,.int .u32 0,.int .u8 0,.int .u8 0,.int .u8 0,.int .u8 0,.nilFunc,.pointer none,.int .i32 0,.int .i32 0]),some (11,48,.agg #[.int .u64 0,.int .u64 0,.int .u32 0,.int .u8 0,.int .u8 0,.int .u8 0,.int .u8 0,.nilFunc,.pointer none,.int .i32 0,.int .i32 0]),oF,oF,oF,some (1,16,.agg #[.string ⟨⟨[]⟩⟩]),some (1,16,.agg #[.string ⟨⟨[]⟩⟩]),some (1,8,.pointer none)]]
def cmpT:List (List (Option (List (TypeId×Nat)))):=[[],
 [],
 [],
 [],
 [],
 [],
 [],
 [],
 [],
 [],
 []]
open Tryz in
noncomputable def fnT:List (List (Option Func)):=[[none,none,none,some f3,some f4,some f5,some f6,some f7,some f8,some f9,some f10,some f11,some f12,some f13,some f14,some f15,some f16,some f17,some f18,some f19],
 [some f20,some f21,some f22,some f23,some f24,some f25,some f26,some f27,some f28,some f29,some f30,some f31,some f32,some f33,some f34,some f35,some f36,some f37,some f38,some f39],
 [some f40,some f41,some f42,some f43,some f44,some f45,some f46,some f47,some f48,some f49,some f50,some f51,some f52,some f53,some f54,some f55,some f56,some f57,some f58,some f59],
 [some f60,some f61,some f62,some f63,some f64,some f65,some f66,some f67,some f68,some f69,some f70,some f71,some f72,some f73,some f74,some f75,some f76,some f77,some f78,some f79],
 [some f80,some f81,some f82,some f83,some f84,some f85,some f86,some f87,some f88,some f89,some f90,some f91,some f92,some f93,some f94,some f95,some f96,some f97,some f98,some f99],
 [some f100,some f101,some f102,some f103,some f104,some f105,some f106,some f107,some f108,some f109,some f110,some f111,some f112,some f113,some f114,some f115,some f116,some f117,some f118,some f119],
 [some f120,some f121,some f122,some f123,some f124,some f125,some f126,some f127,some f128,some f129,some f130,some f131,none,some f133,some f134,none,some f136,some f137,some f138,some f139],
 [some f140,some f141,some f142,some f143,some f144,some f145,some f146,some f147,some f148,some f149,some f150,some f151,some f152,some f153,some f154,some f155,some f156,some f157,some f158,none],
 [],
 []]
def ext (f:FuncId)(a:List Value):Option Value:=
 match Nat.beq f 132 with
 |true=>(match a with
  |[.int .u64 (.ofNat x),.int .u64 (.ofNat y),.int .u64 (.ofNat c)]=>(match Nat.ble c 1 with|true=>some (.tuple ⟨[.int .u64 (.ofNat ((x+y+c)%18446744073709551616)),.int .u64 (.ofNat ((x+y+c)/18446744073709551616))]⟩)|false=>none)
  |_=>none)
 |false=>match Nat.beq f 135 with
  |true=>(match a with
   |[.int .u64 (.ofNat x),.int .u64 (.ofNat y),.int .u64 (.ofNat b)]=>(match Nat.ble b 1 with|true=>some (.tuple ⟨[.int .u64 (.ofNat ((x+18446744073709551616-y-b)%18446744073709551616)),.int .u64 (.ofNat (match Nat.ble (y+b) x with|true=>0|false=>1))]⟩)|false=>none)
   |_=>none)
  |false=>none
end GE
noncomputable def env:Env:={und:=GE.look GE.undT,inf:=GE.look GE.infT,fn:=GE.look GE.fnT,ext:=GE.ext,dT:=9,pure:=fun _=>true,cmp:=GE.look GE.cmpT}
namespace GE
theorem cE:∀(l:List (List α)) (i:Nat),l.length≤i→nthL l i=[]:=by
 intro l
 induction l with
 |nil=>intro i _;rfl
 |cons a l ih=>
  intro i hi
  cases i with
  |zero=>simp at hi
  |succ i=>exact ih i (by simpa using hi)
theorem look_lt {l:List (List (Option α))}{t:Nat}{v:α}(hm:l.length=m)(h:look l t=some v):t<20*m:=by
 apply Nat.lt_of_not_le
 intro hle
 unfold look at h
 rw [cE l (t/20) zo] at h
 cases h
def pick {α β:Type}(a:Option α)(b:Option β):Option β:=match a with|some _=>b|none=>none
theorem at_range {f g:Nat→α}(h:(List.range N).map f=(List.range N).map g){t:Nat}(ht:t<N):f t=g t:=by
 have:=congrArg (fun l=>l[t]?) h
 simpa [ht] using this
theorem all_range {f:Nat→Bool}(h:(List.range N).all f=true){t:Nat}(ht:t<N):f t=true:=by
 rw [List.all_eq_true] at h
 exact h t (by simpa using ht)
theorem undT_len:undT.length=11:=rfl
theorem cmpT_len:cmpT.length=11:=rfl
theorem infT_len:infT.length=11:=rfl
theorem fnT_len:fnT.length=10:=rfl
set_option maxRecDepth 1000000
theorem und_all:(List.range 220).map (fun t=>pick (look undT t) ((Tryz.prog.underlying t).map TD.of))=(List.range 220).map (look undT):=by kernel_rfl
theorem inf_all:(List.range 220).map (fun t=>pick (look infT t) ((Tryz.prog.info? t).bind fun i=>i.zero.map fun z=>(i.size,i.bytes,z)))=(List.range 220).map (look infT):=by kernel_rfl
noncomputable def cmpP (t:Nat):Option (List (TypeId×Nat)):=
 match Tryz.prog.underlying t with
 |some (.struct F)=>(match F.toList.all (fun f=> !(f.name== "_"))&&(!Tryz.prog.stoodInHeld t&& !Tryz.prog.eqGuardType Tryz.prog.depth t) with|true=>some (F.toList.map fun f=>(f.type,f.offset))|false=>none)
 |_=>none
theorem cmp_all:(List.range 220).map (fun t=>pick (look cmpT t) (cmpP t))=(List.range 220).map (look cmpT):=by kernel_rfl
theorem inf_closed:(List.range 220).all (fun t=>match look infT t with|some (_,_,z)=>closed z|none=>true)=true:=by kernel_rfl
theorem fld_all:(List.range 220).all (fun t=>match look undT t with|some (.struct fs)=>fs.all (fun f=>(look infT f.1).isSome)|_=>true)=true:=by kernel_rfl
theorem fn_all:(List.range 200).map (fun f=>pick (look fnT f) (Tryz.prog.funcs[f]?))=(List.range 200).map (look fnT):=by kernel_rfl
theorem fn_body:(List.range 200).all (fun f=>match look fnT f with|some fn=>fn.body.isSome&& !(fn.name== "runtime.NumGoroutine")|none=>true)=true:=by kernel_rfl
theorem fn_code:(List.range 200).all (fun f=>match look fnT f with|some fn=>(match fn.body with|some c=>yL regOk c|none=>true)|none=>true)=true:=by kernel_rfl
theorem mixed:Tryz.prog.follows .mixedOrders=true:=by kernel_rfl
theorem zc5 (x y:Nat)(w:World):(callFunc 132 #[.int .u64 (.ofNat x),.int .u64 (.ofNat y),.int .u64 (.ofNat 0)]).run Tryz.prog w=.ok (.value (.tuple ⟨[.int .u64 (.ofNat ((x+y+0)%18446744073709551616)),.int .u64 (.ofNat ((x+y+0)/18446744073709551616))]⟩)) w:=by kernel_rfl
theorem zc4 (x y:Nat)(w:World):(callFunc 132 #[.int .u64 (.ofNat x),.int .u64 (.ofNat y),.int .u64 (.ofNat 1)]).run Tryz.prog w=.ok (.value (.tuple ⟨[.int .u64 (.ofNat ((x+y+1)%18446744073709551616)),.int .u64 (.ofNat ((x+y+1)/18446744073709551616))]⟩)) w:=by kernel_rfl
theorem zgl (x y c:Nat)(hc:c≤1)(w:World):(callFunc 132 #[.int .u64 (.ofNat x),.int .u64 (.ofNat y),.int .u64 (.ofNat c)]).run Tryz.prog w=.ok (.value (.tuple ⟨[.int .u64 (.ofNat ((x+y+c)%18446744073709551616)),.int .u64 (.ofNat ((x+y+c)/18446744073709551616))]⟩)) w:=by
 have hh:c=0∨c=1:=zo
 rcases hh with rfl|rfl
 ·exact zc5 x y w
 exact zc4 x y w
theorem zaz (x y:Nat)(w:World):(callFunc 135 #[.int .u64 (.ofNat x),.int .u64 (.ofNat y),.int .u64 (.ofNat 0)]).run Tryz.prog w=.ok (.value (.tuple ⟨[.int .u64 (.ofNat ((x+18446744073709551616-y-0)%18446744073709551616)),.int .u64 (.ofNat (if x<y+0 then 1 else 0))]⟩)) w:=by kernel_rfl
theorem zay (x y:Nat)(w:World):(callFunc 135 #[.int .u64 (.ofNat x),.int .u64 (.ofNat y),.int .u64 (.ofNat 1)]).run Tryz.prog w=.ok (.value (.tuple ⟨[.int .u64 (.ofNat ((x+18446744073709551616-y-1)%18446744073709551616)),.int .u64 (.ofNat (if x<y+1 then 1 else 0))]⟩)) w:=by kernel_rfl
theorem zew (x y c:Nat)(hc:c≤1)(w:World):(callFunc 135 #[.int .u64 (.ofNat x),.int .u64 (.ofNat y),.int .u64 (.ofNat c)]).run Tryz.prog w=.ok (.value (.tuple ⟨[.int .u64 (.ofNat ((x+18446744073709551616-y-c)%18446744073709551616)),.int .u64 (.ofNat (match Nat.ble (y+c) x with|true=>0|false=>1))]⟩)) w:=by
 have hh:c=0∨c=1:=zo
 have e:(match Nat.ble (y+c) x with|true=>0|false=>1)=if x<y+c then 1 else 0:=by
  by_cases h:x<y+c
  ·have:Nat.ble (y+c) x=false:=by
    cases hb:Nat.ble (y+c) x with
    |false=>rfl
    |true=>have:=Nat.le_of_ble_eq_true hb;omega
   rw [this,if_pos h]
  rw [Nat.ble_eq_true_of_le zo,if_neg h]
 rw [e]
 rcases hh with rfl|rfl
 ·exact zaz x y w
 exact zay x y w
theorem ext_ok (f:FuncId)(args:List Value)(v:Value)(h:ext f args=some v):(∀x∈args,closed x=true)∧closed v=true∧∀w,(callFunc f args.toArray).run Tryz.prog w=.ok (.value v) w:=by
 unfold ext at h
 split at h
 ·rename_i hf
  have hf:=Nat.eq_of_beq_eq_true hf
  subst hf
  split at h
  ·rename_i x y c
   split at h
   ·rename_i hc
    injection h with h
    subst h
    exact ⟨fun z hz=>by simp at hz;rcases hz with rfl|rfl|rfl<;>rfl,rfl,fun w=>zgl x y c (Nat.le_of_ble_eq_true hc) w⟩
   cases h
  cases h
 split at h
 ·rename_i hf
  have hf:=Nat.eq_of_beq_eq_true hf
  subst hf
  split at h
  ·rename_i x y c
   split at h
   ·rename_i hc
    injection h with h
    subst h
    exact ⟨fun z hz=>by simp at hz;rcases hz with rfl|rfl|rfl<;>rfl,rfl,fun w=>zew x y c (Nat.le_of_ble_eq_true hc) w⟩
   cases h
  cases h
 cases h
end GE
theorem iS:EnvOk2 env Tryz.prog where
 und t d h:=by
  have hlt:=GE.look_lt GE.undT_len h
  have e:=GE.at_range GE.und_all hlt
  rw [show GE.look GE.undT t=some d from h] at e
  simp only [GE.pick,Option.map_eq_some_iff] at e
  exact e
 fld t fs h f hf:=by
  have hlt:=GE.look_lt GE.undT_len h
  have e:=GE.all_range GE.fld_all hlt
  rw [show GE.look GE.undT t=some (.struct fs) from h] at e
  simp only [List.all_eq_true] at e
  exact Option.isSome_iff_exists.1 (e f hf)
 inf t s b z h:=by
  have hlt:=GE.look_lt GE.infT_len h
  have e:=GE.at_range GE.inf_all hlt
  have c:=GE.all_range GE.inf_closed hlt
  rw [show GE.look GE.infT t=some (s,b,z) from h] at e c
  simp only [GE.pick,Option.bind_eq_some_iff,Option.map_eq_some_iff,Prod.mk.injEq] at e
  obtain ⟨i,h1,z',h2,h3,h4,h5⟩:=e
  subst h5
  exact ⟨⟨i,h1,h3,h4,h2⟩,c⟩
 cmp t fs h:=by
  have hlt:=GE.look_lt GE.cmpT_len h
  have e:=GE.at_range GE.cmp_all hlt
  rw [show GE.look GE.cmpT t=some fs from h] at e
  simp only [GE.pick] at e
  unfold GE.cmpP at e
  split at e
  ·rename_i F hF
   split at e
   ·rename_i hc
    injection e with e
    simp only [Bool.and_eq_true,Bool.not_eq_true',List.all_eq_true] at hc
    exact ⟨F,hF,e.symm,fun f hf=>by simpa using hc.1 f hf,hc.2.1,hc.2.2⟩
   cases e
  cases e
 get f fn h:=by
  have hlt:=GE.look_lt GE.fnT_len h
  have e:=GE.at_range GE.fn_all hlt
  rw [show GE.look GE.fnT f=some fn from h] at e
  exact e
 ent f fn h args w:=by
  have hlt:=GE.look_lt GE.fnT_len h
  have e:=GE.at_range GE.fn_all hlt
  have c:=GE.all_range GE.fn_body hlt
  rw [show GE.look GE.fnT f=some fn from h] at e c
  have e:Tryz.prog.funcs[f]?=some fn:=e
  simp only [Bool.and_eq_true,Bool.not_eq_true'] at c
  obtain ⟨b,hb⟩:=Option.isSome_iff_exists.1 c.1
  have c2:¬fn.name= "runtime.NumGoroutine" :=by simpa using c.2
  simp [callFunc,e,c2,hb]
 ext f args v h:=GE.ext_ok f args v h
 mixed:=GE.mixed
theorem iT:∀f fn c,env.fn f=some fn→fn.body=some c→yL regOk c=true:=fun f fn c h hb=>by
 have hlt:=GE.look_lt GE.fnT_len h
 have e:=GE.all_range GE.fn_code hlt
 rw [show GE.look GE.fnT f=some fn from h] at e
 simp only [hb] at e
 exact e
noncomputable def rel:Rel:={E:=env,P:=Tryz.prog,ok:=fun c=>yL regOk c=true}
theorem ziu (L d:Nat):CalOk rel (calN env L d):=
 et (X:=rel) (reg:=regOk) iS L (fun _=>Iff.rfl) iT (fun C ρ0 h0 w0 hX hC=>pM iS hX hC) d
end Go.Proofs.YtdcfbgmbaniglaaGreatDoor
