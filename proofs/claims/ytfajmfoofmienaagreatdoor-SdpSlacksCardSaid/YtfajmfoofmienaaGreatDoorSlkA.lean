import GoSem.Dispatch
import GoSem.Machine.Frame
import Derived.RangeFuncIn
import Derived.OrdersIn
import Derived.Laws.OwnMore
import Derived.Lib.Strings
import Derived.Lib.IndexBytes
import Derived.Laws.StructEq
import Derived.Laws.BytesArg
import Derived.Laws.Append
import Derived.Laws.MakeOwn
import Derived.RangeFuncLeaves
import Derived.RangeFuncRecord
import Derived.RangeFuncCalls
import Derived.Test.YtfajmfoofmienaaGreatDoorProg
import Derived.KernelRfl
open Array renaming ext'→G2,foldl_toList→Ku,getElem?_eq_getElem→G8,getElem?_eq_none→FA,getElem?_eq_some_iff→Ei,getElem?_modify→II,getElem?_push→Ie,getElem?_setIfInBounds_ne→Hw,getElem?_toList→G6,getElem_mem→HQ,map→IN,mapM_eq_mapM_toList→Jr,map_congr_left→J9,mem_iff_getElem→J6,range→ad5,replicate→Ha
open BitVec renaming ofInt→F9
open Bool renaming and_eq_true→Ew,eq_iff_iff→I4,false_eq_true→FE,not_eq_true'→FY,not_true→JF,or_eq_true→Im,rec→Ii
open ByteArray renaming ext→ah3
open Classical renaming byContradiction→DU
open Go renaming isAgg→af6
open Go.Act renaming eval→Jm,put→ak2
open Go.Addr renaming add→FX
open Go.Builtin renaming append_→HI,copy_→Ij,firstCells→FQ,lenOf→IX,len_→JP,max_→aj7,min_→aj6,zeroCells→Hg
open Go.ByteArray renaming toList_eq→Ic
open Go.Call renaming operands→ah8
open Go.Conv renaming stringToBytes→Kv
open Go.Deferred renaming ofValue→IP
open Go.Fence renaming wide→Gu
open Go.Frame renaming atR→as7
open Go.Instr renaming build→ad4,extract→ah5,field→am3,fieldAt→ah4,fill→af9,index→ad3,indexAt→Kp,loadAt→ak0,slice→Jv,sliceAt→Hs,sliceBound→H1,sliceBounds→Ju,sureAddr→HT,yield→ad7
open Go.IntKind renaming u8→Kw
open Go.Lib renaming extract_data→ac0
open Go.Op renaming eqFields→ac9,equalIn→Jl,intArith→ad1,maxDepth→am2,operands→GN,stringOp→ad2
open Go.Oper renaming semAt_eq→IY
open Go.Proofs.Tryz renaming prog→D6
open Go.Question renaming cut→aj8,forced→ae7
open Go.Region renaming binds→Fv,ready→aa2,wanted→IZ
open Go.Result renaming andThen_ok→Ey
open Go.Sem renaming run_bind→EW,run_map→am5,run_pure→GW
open Go.StepsIn renaming trans→ah6
open Go.Value renaming bool→Dk,cells→FH,func→HU,int→U,oneCell'→FT,pointer→Dn,slice→Y,string→Dl
open Go.World renaming cell?→I0,putObj_heap_other→Gn,setCell→Kq
open Go.stepG renaming exec→ap3
open Int renaming negSucc_eq→af7
open List renaming all_eq_true→Fy,drop_set_of_lt→GA,foldl_cons→I5,getD→Ir,getElem?_append_left→En,getElem?_eq_getElem→Dm,getElem?_eq_none→DS,getElem?_eq_some_iff→Du,length→O,length_cons→D3,map→KL,mapM_cons→J7,map_append→EN,map_congr_left→EQ,map_cons→GJ,map_drop→IU,map_id→HS,map_inj_left→Jw,map_take→Hr,map_toArray→H3,mem_append→Ec,mem_cons→DR,mem_map→EX,mem_of_mem_drop→FB,mem_of_mem_take→EB,nodup_cons→JW,nodup_nil→Iw,not_mem_nil→Ds,pairwise_cons→Kx,range→D9,range'→I2,replicate→Dp,take_append_of_le_length→Fk,take_set_of_le→Kk,take_succ_eq_append_getElem→FZ
open List.Pairwise renaming nil→aa0
open Nat renaming add_mul→DE,add_zero→Ej,beq→Eh,ble→DX,ble_eq_true_of_le→Dv,blt→Iu,eq_of_beq_eq_true→Eb,le_add_right→G0,le_of_ble_eq_true→D5,le_of_not_lt→HB,le_refl→Fu,le_trans→Ed,lt_irrefl→GM,lt_of_lt_of_le→DY,lt_of_not_le→Gm,lt_or_gt_of_ne→Iq,min→Jd,ne_of_beq_eq_false→HD,not_lt→Ky,not_lt_zero→Fr,rec→Jt,strongRecOn→Hb,succ_mul→Fb,zero_add→D7
open Option renaming bind_some→H4,isSome_iff_exists→Eg,map_eq_some_iff→HE
open Option.some renaming inj→ET
open UInt8 renaming ofNat→EV
set_option maxHeartbeats 8000000
set_option linter.unusedVariables false
set_option linter.unusedSimpArgs false
namespace Go
theorem aA {p:Prop}[i:Decidable p](h:¬p):decide p=false:=decide_eq_false h
theorem kA {p:Prop}[i:Decidable p](h:p):decide p=true:=decide_eq_true h
theorem oU {a b:Prop}(h:a)(g:¬a):b:=absurd h g
theorem CT {c:Prop}{i:Decidable c}(h:¬c){α:Sort _}{t e:α}:(ite c t e)=e:=if_neg h
theorem De {c:Prop}{i:Decidable c}(h:c){α:Sort _}{t e:α}:(ite c t e)=t:=if_pos h
theorem Df:True:=trivial
theorem Dh {n:Nat}:n≤n:=Fu n
theorem Di {n:Nat}:0≤n:=Nat.zero_le n
theorem Dj {p:Prop}(h:p:=by simp):p:=h
theorem Z{p:Prop}(h:p:=by omega):p:=h
theorem zd{p:Prop}(h:p:=by decide):p:=h
theorem zs{n:Nat}:n≤n+1:=Nat.le_succ n
theorem zb{a b:Nat}(h:Nat.ble a b=true:=by exact rfl):a≤b:=Nat.le_of_ble_eq_true h
theorem R2{A B:Sort _}{a:A}{b:B}:a=a∧b=b:=⟨rfl,rfl⟩
theorem R3{A B C:Sort _}{a:A}{b:B}{c:C}:a=a∧b=b∧c=c:=⟨rfl,rfl,rfl⟩
theorem R4{A B C D:Sort _}{a:A}{b:B}{c:C}{d:D}:a=a∧b=b∧c=c∧d=d:=⟨rfl,rfl,rfl,rfl⟩
theorem R5{A B C D E:Sort _}{a:A}{b:B}{c:C}{d:D}{e:E}:a=a∧b=b∧c=c∧d=d∧e=e:=⟨rfl,rfl,rfl,rfl,rfl⟩
theorem R6{A B C D E F:Sort _}{a:A}{b:B}{c:C}{d:D}{e:E}{f:F}:a=a∧b=b∧c=c∧d=d∧e=e∧f=f:=⟨rfl,rfl,rfl,rfl,rfl,rfl⟩
theorem R7{A B C D E F G:Sort _}{a:A}{b:B}{c:C}{d:D}{e:E}{f:F}{g:G}:a=a∧b=b∧c=c∧d=d∧e=e∧f=f∧g=g:=⟨rfl,rfl,rfl,rfl,rfl,rfl,rfl⟩
theorem R8{A B C D E F G H:Sort _}{a:A}{b:B}{c:C}{d:D}{e:E}{f:F}{g:G}{h:H}:a=a∧b=b∧c=c∧d=d∧e=e∧f=f∧g=g∧h=h:=⟨rfl,rfl,rfl,rfl,rfl,rfl,rfl,rfl⟩
theorem R9{A B C D E F G H I:Sort _}{a:A}{b:B}{c:C}{d:D}{e:E}{f:F}{g:G}{h:H}{i:I}:a=a∧b=b∧c=c∧d=d∧e=e∧f=f∧g=g∧h=h∧i=i:=⟨rfl,rfl,rfl,rfl,rfl,rfl,rfl,rfl,rfl⟩
theorem Rq{A B C D E F G H I J:Sort _}{a:A}{b:B}{c:C}{d:D}{e:E}{f:F}{g:G}{h:H}{i:I}{j:J}:a=a∧b=b∧c=c∧d=d∧e=e∧f=f∧g=g∧h=h∧i=i∧j=j:=⟨rfl,rfl,rfl,rfl,rfl,rfl,rfl,rfl,rfl,rfl⟩
theorem V2{A B:Sort _}{a:A}{b:B}:a=a∧b=b∧True:=⟨rfl,rfl,Df⟩
theorem V3{A B C:Sort _}{a:A}{b:B}{c:C}:a=a∧b=b∧c=c∧True:=⟨rfl,rfl,rfl,Df⟩
theorem V4{A B C D:Sort _}{a:A}{b:B}{c:C}{d:D}:a=a∧b=b∧c=c∧d=d∧True:=⟨rfl,rfl,rfl,rfl,Df⟩
theorem V5{A B C D E:Sort _}{a:A}{b:B}{c:C}{d:D}{e:E}:a=a∧b=b∧c=c∧d=d∧e=e∧True:=⟨rfl,rfl,rfl,rfl,rfl,Df⟩
theorem V6{A B C D E F:Sort _}{a:A}{b:B}{c:C}{d:D}{e:E}{f:F}:a=a∧b=b∧c=c∧d=d∧e=e∧f=f∧True:=⟨rfl,rfl,rfl,rfl,rfl,rfl,Df⟩
theorem V7{A B C D E F G:Sort _}{a:A}{b:B}{c:C}{d:D}{e:E}{f:F}{g:G}:a=a∧b=b∧c=c∧d=d∧e=e∧f=f∧g=g∧True:=⟨rfl,rfl,rfl,rfl,rfl,rfl,rfl,Df⟩
theorem V8{A B C D E F G H:Sort _}{a:A}{b:B}{c:C}{d:D}{e:E}{f:F}{g:G}{h:H}:a=a∧b=b∧c=c∧d=d∧e=e∧f=f∧g=g∧h=h∧True:=⟨rfl,rfl,rfl,rfl,rfl,rfl,rfl,rfl,Df⟩
theorem V9{A B C D E F G H I:Sort _}{a:A}{b:B}{c:C}{d:D}{e:E}{f:F}{g:G}{h:H}{i:I}:a=a∧b=b∧c=c∧d=d∧e=e∧f=f∧g=g∧h=h∧i=i∧True:=⟨rfl,rfl,rfl,rfl,rfl,rfl,rfl,rfl,rfl,Df⟩
theorem Rr{A B C D E F G H I J:Sort _}{a:A}{b:B}{c:C}{d:D}{e:E}{f:F}{g:G}{h:H}{i:I}{j:J}:a=a∧b=b∧c=c∧d=d∧e=e∧f=f∧g=g∧h=h∧i=i∧j=j∧True:=⟨rfl,rfl,rfl,rfl,rfl,rfl,rfl,rfl,rfl,rfl,Df⟩
theorem Rs{A B C D E F G H I J K L:Sort _}{a:A}{b:B}{c:C}{d:D}{e:E}{f:F}{g:G}{h:H}{i:I}{j:J}{k:K}{l:L}:a=a∧b=b∧c=c∧d=d∧e=e∧f=f∧g=g∧h=h∧i=i∧j=j∧k=k∧l=l∧True:=⟨rfl,rfl,rfl,rfl,rfl,rfl,rfl,rfl,rfl,rfl,rfl,rfl,Df⟩
theorem Oy{A B C D E F G H I J K L M N O P Q:Sort _}{a:A}{b:B}{c:C}{d:D}{e:E}{f:F}{g:G}{h:H}{i:I}{j:J}{k:K}{l:L}{m:M}{n:N}{o:O}{p:P}{q:Q}:a=a∧b=b∧c=c∧d=d∧e=e∧f=f∧g=g∧h=h∧i=i∧j=j∧k=k∧l=l∧m=m∧n=n∧o=o∧p=p∧q=q∧True:=⟨rfl,rfl,rfl,rfl,rfl,rfl,rfl,rfl,rfl,rfl,rfl,rfl,rfl,rfl,rfl,rfl,rfl,Df⟩
theorem A0{p:Prop}(h:p:=by rw[e];rfl):p:=h
theorem A1{p:Prop}(h:p:=by show C.length-0<LL;unfold LL;omega):p:=h
theorem A2{p:Prop}(h:p:=by show 3*n≤3*n+1;omega):p:=h
theorem A3{p:Prop}(h:p:=by rw[q];rfl):p:=h
theorem A4{p:Prop}(h:p:=by show X.length-0<LL;unfold LL;omega):p:=h
theorem A5{p:Prop}(h:p:=by show 3*n≤3*g+2;omega):p:=h
theorem A6{p:Prop}(h:p:=by simp only[List.all_cons,List.all_nil,E.u.1,E.u.2,Bool.and_true];rfl):p:=h
theorem A7{p:Prop}(h:p:=by show Value.pointer (some ⟨3*n+2,0+z*4,none⟩)=_;rw[Nat.zero_add]):p:=h
theorem A8{p:Prop}(h:p:=by show(([]++intN q.num).length+1)*1≤_;rw[List.nil_append];omega):p:=h
theorem A9{p:Prop}(h:p:=by have:=a.2.zero;simp only[reduceCtorEq,true_iff,false_iff];omega):p:=h
theorem AA{p:Prop}(h:p:=by have hc:c∈addW n [be] J:=hc;rw[B]at hc;rcases List.mem_cons.1 hc with hc|hc;exact hc;exact C c hc):p:=h
theorem AB{p:Prop}(h:p:=by show X.length-(D++[s]).length<X.length-D.length;rw[List.length_append,List.length_singleton];omega):p:=h
theorem AC{p:Prop}(h:p:=by rw[←hh,zg Z,ze]):p:=h
theorem AD{p:Prop}(h:p:=by show n≤n+1;omega):p:=h
theorem AE{p:Prop}(h:p:=by rw[uI (pB i q21 (by have:=o;simp only[Int.natAbs_neg,Int.natAbs_natCast]at this;omega))];rfl):p:=h
theorem AF{p:Prop}(h:p:=by rw[uI (pB i q31 (by have:=p;simp only[Int.natAbs_neg,Int.natAbs_natCast]at this;omega))];rfl):p:=h
theorem AG{p:Prop}(h:p:=by show i+1≤p.eqs.length;omega):p:=h
theorem AH{p:Prop}(h:p:=by unfold i64s;rw[List.length_map,Nat.mul_one]):p:=h
theorem AI{p:Prop}(h:p:=by rw[Nat.mul_comm];exact Nat.div_add_mod _ _):p:=h
theorem AJ{p:Prop}(h:p:=by simpa using h):p:=h
theorem AK{p:Prop}(h:p:=by rw[decide_eq_true_eq];unfold MB MA;omega):p:=h
theorem AM{p:Prop}(h:p:=by rw[p];rfl):p:=h
theorem AN{p:Prop}(h:p:=by rw[show L-(i-1)=L-i+1 by omega,C 1,I.2]):p:=h
theorem AO{p:Prop}(h:p:=by show z+1≤S.length;omega):p:=h
theorem AP{p:Prop}(h:p:=by rw[zQ];simp;omega):p:=h
theorem AQ{p:Prop}(h:p:=by simp only[List.mem_cons,List.not_mem_nil,or_false,not_or];exact⟨h1,h2⟩):p:=h
theorem AR{p:Prop}(h:p:=by simp[dv]):p:=h
theorem AT{p:Prop}(h:p:=by rw[←hh,zg Z,zg Z,ze]):p:=h
theorem AV{p:Prop}(h:p:=by show Z3.length-0<LL;unfold LL;omega):p:=h
theorem AX{p:Prop}(h:p:=by rcases hc with rfl|rfl|rfl|rfl<;>(simp only[List.mem_singleton];omega)):p:=h
theorem AY{p:Prop}(h:p:=by rw[Nat.add_mul];omega):p:=h
theorem AZ{p:Prop}(h:p:=by show j<j+1;omega):p:=h
theorem Aa{p:Prop}(h:p:=by rw[zQ,List.length_append,List.length_drop];omega):p:=h
theorem Ab{p:Prop}(h:p:=by rw[List.length_range];omega):p:=h
theorem Ac{p:Prop}(h:p:=by show j+1≤p.free;omega):p:=h
theorem Ad{p:Prop}(h:p:=by rcases hc with rfl|hc;omega;have:=a0 c hc;omega):p:=h
theorem Ae{p:Prop}(h:p:=by have:=a.ge;have:=c.ge;simp only[reduceCtorEq,true_iff,false_iff];omega):p:=h
theorem Af{p:Prop}(h:p:=by have:=a.lt;have:=c.lt;simp only[reduceCtorEq,true_iff,false_iff];omega):p:=h
theorem Ag{p:Prop}(h:p:=by show S.length-0<LL;unfold LL;omega):p:=h
theorem Ah{p:Prop}(h:p:=by show top/v1<LL;have:top/v1≤top:=Nat.div_le_self _ _;unfold LL;omega):p:=h
theorem Ai{p:Prop}(h:p:=by show(0:Nat)<_;decide):p:=h
theorem Aj{p:Prop}(h:p:=by show l.length<LL;unfold LL;omega):p:=h
theorem Ak{p:Prop}(h:p:=by rw[ym];omega):p:=h
theorem Al{p:Prop}(h:p:=by rw[←Nat.mul_succ]):p:=h
theorem Am{p:Prop}(h:p:=by rw[yI];exact KN.upd Z):p:=h
theorem An{p:Prop}(h:p:=by show some (Value.int .i64 (IntKind.wrap .i64 _))=_;rw[xI Z]):p:=h
theorem Ao{p:Prop}(h:p:=by rw[f];rfl):p:=h
theorem Ap{p:Prop}(h:p:=by rw[e];exact List.mem_append_left _ hx):p:=h
theorem Aq{p:Prop}(h:p:=by cases h):p:=h
theorem Ar{p:Prop}(h:p:=by rw[List.mem_singleton.1 hb];exact A):p:=h
theorem As{p:Prop}(h:p:=by show S.length-(z+1)<S.length-z;omega):p:=h
theorem Au{p:Prop}(h:p:=by show A.length-0<LL;unfold LL;omega):p:=h
theorem Av{p:Prop}(h:p:=by show Value.bool (decide _)=_;rw[decide_eq_false Z]):p:=h
theorem Aw{p:Prop}(h:p:=by simpa using d):p:=h
theorem Ax{p:Prop}(h:p:=by show Value.bool (decide _)=_;rw[decide_eq_true Z]):p:=h
theorem Ay{p:Prop}(h:p:=by show Z3.length-(D++[s]).length<Z3.length-D.length;rw[List.length_append,List.length_singleton];omega):p:=h
theorem Az{p:Prop}(h:p:=by have:=b.2.zero;have:=a.2.zero;rcases(show x.natAbs=0∨y.natAbs=0 by omega)with e|e<;>rw[e]<;>simp):p:=h
theorem B3{p:Prop}(h:p:=by refine zG ?_;refine zk _ R5 (jn _ ag d hN.2 ba bb b9 (Yv hZ cz hN.2)) ?_;rintro _ c8 ea ej⟨eq,cr,ay,bv,bq⟩;rw[qf,zZ (fun c hc=>by rcases bq c hc with rfl|rfl<;>omega)];refine zG ?_;have aa:∀c,c<3*G→c≠be→c≠b0→c8 c=C c:=fun c hc h1 h2=>cr c hc AQ;have ax:=K.1;exact sK (k+1,yR T k bf,T k k,qn a k,a6,ds.set k (a k k)) ⟨rfl,Z,fun c hc=>(aa c Z Z Z).trans ((a4 c Z lj).trans (ah c hc)),bv,hP.step hN.2 hD d a1,K.go ratP.kp ay (aa y ax Z Z),an.go ratP.kp (J.trans ay) ((aa A Z Z Z).trans (a4 A Z lj)),a2,Bi,a3,ar,by show k+1≤N;omega⟩):p:=h
theorem B4{p:Prop}(h:p:=by exact retF _ rfl (zj rfl) R2 rfl):p:=h
theorem B5{p:Prop}(h:p:=by refine Zq ?_;refine zA (v:=.agg #[.bool false,.slice none 0 0,.bool false,.slice none 0 0]) R5<|zw [.bool false,.slice none 0 0,.bool false,.slice none 0 0] R7 rfl ab rfl eL ?_;refine Zb ?_;exact tJ R6 (ze _ _ _) R2 ⟨rfl,by show n≤n6+1;omega,fun b g=>(zg Z).trans (P b g),_,_,_,_,0,[],[],false,rfl,RatR.zero _ _,Nat.zero_le _,Nat.zero_le _,trivial,trivial,fun h=>absurd h cA,fun hs=>absurd hs a0⟩):p:=h
theorem B6{p:Prop}(h:p:=by refine Zk ?_;refine zO (v:=.agg #[.int .u64 (u0:Int),.int .u64 (p:Int),.int .u64 (v0:Int),.int .u64 (g:Int),.bool o]) R5 (zF R2 R rfl zb rfl)<|zw [.int .u64 (u0:Int),.int .u64 (p:Int),.int .u64 (v0:Int),.int .u64 (g:Int),.bool o] R7 rfl K rfl bR ?_;refine zN ?_;exact xu R5 (ze _ _ _) rfl ⟨rfl,by show n≤n+1+1;omega,fun b B=>(zg Z).trans (a5 b B),⟨x,y,u0,p,I,v0,g,u,L,r1,o,rfl,T,b2,b3,b5,b6⟩⟩):p:=h
theorem B7{p:Prop}(h:p:=by exact y _ g hgg.symm ⟨rfl,rfl,rfl,rfl,rfl,rfl,rfl,oo,trivial⟩):p:=h
theorem B8{p:Prop}(h:p:=by simp only[binE,isSh,MJ,if_neg c,e];rw[Int.fdiv_eq_ediv_of_nonneg _ (Int.le_of_lt (Int.pow_pos zd)),show(2:Int)^s=((2^s:Nat):Int)from by simp];rfl):p:=h
theorem B9{p:Prop}(h:p:=by rw[List.length_take,Nat.min_eq_left Z]at this;exact this):p:=h
theorem BA{p:Prop}(h:p:=by simp[R.view,so,Blk.view]):p:=h
theorem BB{p:Prop}(h:p:=by show a-1<a;omega):p:=h
theorem BC{p:Prop}(h:p:=by show j≤_;omega):p:=h
theorem BE{p:Prop}(h:p:=by rw[d.len];omega):p:=h
theorem BG{p:Prop}(h:p:=by rw[List.take_add];exact List.mem_append.2 (.inr J)):p:=h
theorem BH{p:Prop}(h:p:=by rw[List.length_append,List.length_singleton];omega):p:=h
theorem BI{p:Prop}(h:p:=by have h:([]:List (List Nat))[k]?=some l:=h;simp at h):p:=h
theorem BJ{p:Prop}(h:p:=by show 3*n+2<3*(n+1);omega):p:=h
theorem BK{p:Prop}(h:p:=by rw[←H,show wv []=0 from rfl,Nat.gcd_zero_right]):p:=h
theorem BL{p:Prop}(h:p:=by rw[List.length_append,List.nil_append];simp;omega):p:=h
theorem BM{p:Prop}(h:p:=by have:=b.ol;rw[e,List.length_append]at this;omega):p:=h
theorem BN{p:Prop}(h:p:=by have:=t.1;omega):p:=h
theorem BO{p:Prop}(h:p:=by rw[List.length_map,yF]):p:=h
theorem BP{p:Prop}(h:p:=by rw[List.length_set,List.length_map,yF];exact al):p:=h
theorem BQ{p:Prop}(h:p:=by rcases hb with rfl|hb;exact K.r.1;exact K.blt hb):p:=h
theorem BR{p:Prop}(h:p:=by simp[a]):p:=h
theorem BS{p:Prop}(h:p:=by simp[g]):p:=h
theorem BT{p:Prop}(h:p:=by show(0:Nat)≤1;decide):p:=h
theorem BU{p:Prop}(h:p:=by show Value.int .i64 _=Value.int .i64 _;rw[hDY]):p:=h
theorem BY{p:Prop}(h:p:=by refine zG ?_;refine zn [0,0,3,7,0,31] rfl<|zH ?_;refine dI rfl hp ?_;refine dL aq y 0 ?_;refine zH ?_;refine yy _ R7 (qG _ ah zs D G (D.2.l39 (hb _ _ hp hp)) (G.2.l39 (hb _ _ hi d)) Z) ?_;rintro _ b3 bd bj⟨ai,ak,K,_,P⟩;refine⟨rfl,ak,?_⟩;rw[uO,zZ (fun b hb=>by have:=P b hb;show 3*n≤b;omega)];refine zG ?_;refine zn [0,0,0,6,14,31] rfl<|zH ?_;refine dI rfl d ?_;refine dL t9 y 0 ?_;refine yy _ R7 (md _ ai Z (F.ext K (Nat.le_refl _)) (H.ext K (Nat.le_refl _)) (F.2.l39 (hb _ _ hi hp)) (H.2.l39 (hb _ _ hp d)) Z) ?_;rintro _ b5 bg bk⟨aj,al,bl,_,R⟩;refine⟨rfl,al,?_⟩;rw[uO,zZ (fun b hb=>by have:=R b hb;show 3*n≤b;omega)];refine zG ?_;refine zn [0,0,0,0,12,31,63] rfl<|zH ?_;refine dC (W1 _ aj Z) ?_;rintro _ b6 bh⟨b1,b0,bc,b2,rfl,a7⟩ bo bm;refine zH ?_;refine dC (quoX _ a7 (jb.x zx) (by rw[Int.zero_add];exact hx j d) an ao) ?_;rintro _ b7 bi⟨a1,a0,ac,a2,rfl,aa⟩ bp bn;refine zH ?_;refine dI rfl d ?_;refine dZ [.bool a1,.slice a0 ac a2] (v.xx intP.kp zx) intP.kp (by rw[yF];exact ow hi d) (Nat.add_mul _ _ _).symm ⟨_,_,_,_,rfl,aa⟩ ?_;intro ba ad az _;refine zG ?_;have B:addW n [be] J=be::J:=rT a3;exact sK (j+1) ⟨Z,zy,A.trans zt,ad.as (by rw[Int.zero_add,nj hi d,mB]),vT,fun c hc=>AA,fun s=>(by have s:addW n [be] J=[]:=s;rw[B]at s;cases s)⟩):p:=h
theorem BZ{p:Prop}(h:p:=by refine sZ (n0:=o) (j:=i0*N+f) (q:=ratT S) [.string ⟨⟨ratT S⟩⟩] b3 strP.kp (by rw[List.length_map,yF];exact a4) (show(0:Nat)+(i0*N+f)*1=(i0*N+f)*1 by omega) rfl ?_;intro c9 b4 Z0;have c3:=(Z0.1 (3*o+2) Z).trans ((af _ Z).trans br);have b6:=(Z0.1 (3*H+2) Z).trans a7;refine zG ?_;refine LZ f N Z ?_;refine zG ?_;refine sI (j:=f*N+i0) rfl al ?_;refine sZ (n0:=o) (j:=f*N+i0) (q:=ratT S) [.string ⟨⟨ratT S⟩⟩] b4 strP.kp BP (show(0:Nat)+(f*N+i0)*1=(f*N+i0)*1 by omega) rfl ?_;intro a1 b5 ah;refine zG ?_;have a8:Tr H y Z3 a1:=Tr.s ah (Tr.s Z0 aq);have ag:∀b,b<3*H→b≠C→a1 b=y b:=fun b hb hn=>(ah.1 b hn).trans ((Z0.1 b hn).trans (af b hb));have ak:MW a1 Z3 bm Ns bs (p (L++[⟨(u:Int),(i0:Int),(f:Int),ratT v⟩])):=K.set Z4 a9 a8 (fun c hc hb=>ag c BQ hc) (b5.as ((bJ aa ab am hS).trans (by congr 1;exact uY fun a b _ _=>(a2 u a b).symm))) (fun k hk a b=>by rw[a2,lM (.inl hk),Rat.mul_zero,Rat.add_zero]);exact sK (z+1) ⟨Z,fun b hb hn=>(ag b Z (fun e=>hn (e▸A))).trans (x9 b hb hn),Tr.trans T9 a8,by rw[ax];exact ak,vZ (fun b hb=>.inl Ar) (vZ (fun b hb=>.inl Ar) ac),vH _ _ _ (vH _ _ _ ao),fun _=>⟨C,ub (show C<3*o by omega) (List.mem_singleton.2 rfl),A⟩,by show z+1≤m.length;omega⟩):p:=h
theorem Ba{p:Prop}(h:p:=by show Value.int .u32 _=Value.int .u32 ((10^s/10:Nat):Int);rw[hD]):p:=h
theorem Bb{p:Prop}(h:p:=by rcases hc with rfl|hc;exact Ne.symm ar;exact fun e=>a6 (e▸hc)):p:=h
theorem Bc{p:Prop}(h:p:=by show A.length≤C.length;omega):p:=h
theorem Bd{p:Prop}(h:p:=by show C.length≤A.length;omega):p:=h
theorem Be{p:Prop}(h:p:=by rw[decide_eq_false];exact Int.not_lt.2 (Int.natCast_nonneg _)):p:=h
theorem Bf{p:Prop}(h:p:=by rw[List.drop_zero,List.take_of_length_le (by rw[zQ];omega)]):p:=h
theorem Bg{p:Prop}(h:p:=by intro e;rw[e]at h;simp at h):p:=h
theorem Bh{p:Prop}(h:p:=by rw[List.length_set];exact lL):p:=h
theorem Bi{p:Prop}(h:p:=by rw[List.length_set];exact lD):p:=h
theorem Bj{p:Prop}(h:p:=by first|exact(Oj ‹_›).1.symm|exact(QG ‹_›).1.symm):p:=h
theorem Bk{p:Prop}(h:p:=by first|exact(Oj ‹_›).2.symm|exact(QG ‹_›).2.symm):p:=h
theorem Bl{p:Prop}(h:p:=by rw[Nat.div_lt_iff_lt_mul Z];rw[Nat.pow_succ]at h;exact h):p:=h
theorem Bm{p:Prop}(h:p:=by simp[c]):p:=h
theorem Bn{p:Prop}(h:p:=by rw[ym];simp;omega):p:=h
theorem Bo{p:Prop}(h:p:=by show g≤a-1;omega):p:=h
theorem Bp{p:Prop}(h:p:=by show j+1≤L;omega):p:=h
theorem Bq{p:Prop}(h:p:=by show N-0<LL;unfold LL;omega):p:=h
theorem Br{p:Prop}(h:p:=by show FN 1 0 (numOf [48]);rw[←mE,zT];exact FN.zero _ _):p:=h
theorem Bs{p:Prop}(h:p:=by show b+v1<_;omega):p:=h
theorem Bt{p:Prop}(h:p:=by show(a.set _ _).length=_;rw[List.length_set];exact u):p:=h
theorem Bu{p:Prop}(h:p:=by show 3*n≤3*(d+1)+2;omega):p:=h
theorem Bv{p:Prop}(h:p:=by show Tr.get none t b=_;rw[H,if_pos rfl];exact F.symm):p:=h
theorem Bw{p:Prop}(h:p:=by simp only[List.length_append,List.length_cons];omega):p:=h
theorem Bx{p:Prop}(h:p:=by simp only[List.length_append,List.length_take];omega):p:=h
theorem By{p:Prop}(h:p:=by show j+1≤b.length;omega):p:=h
theorem Bz{p:Prop}(h:p:=by rw[hd];exact hn):p:=h
theorem C0{p:Prop}(h:p:=by exact fun h=>⟨_,_,rfl,h⟩):p:=h
theorem C1{p:Prop}(h:p:=by exact List.mem_cons_self):p:=h
theorem C2{p:Prop}(h:p:=by unfold gro;rw[show(3*n+1)%3=1 from Z];rfl):p:=h
theorem C3{p:Prop}(h:p:=by unfold eqFr;rw[hq];show numOf ((q.fr[j]?).getD [48])=_;rw[hc];exact zT _):p:=h
theorem C4{p:Prop}(h:p:=by exact KN.upd Z):p:=h
theorem C5{p:Prop}(h:p:=by rw[Nat.div_lt_iff_lt_mul Z];have:(top+1)*4294967296≤(v1*4294967296+v2)*4294967296:=Nat.mul_le_mul_right _ A;rw[Nat.mul_comm 4294967296];omega):p:=h
theorem C6{p:Prop}(h:p:=by refine zw [.bool false,.slice a l c] R7 rfl (ze _ _ _) rfl eL ?_;refine zN ?_;exact xu R5 (ze _ _ _) rfl ⟨rfl,rfl,rfl,Am⟩):p:=h
theorem C7{p:Prop}(h:p:=by subst this;exact .nil (.inr ⟨_,_,_,rfl,Z⟩)):p:=h
theorem C8{p:Prop}(h:p:=by refine Zo ?_;exact retF _ rfl (zj rfl) R2 (by rw[cmpI,if_pos d];rfl)):p:=h
theorem C9{p:Prop}(h:p:=by obtain⟨x,rfl⟩:∃x,a=x+1:=⟨a-1,Z⟩;rw[Nat.add_mul,Nat.one_mul]at f;simp only[Nat.add_sub_cancel];omega):p:=h
theorem CA{p:Prop}(h:p:=by exact WW.only (cs:=[.bool false,.slice none 0 0]) ⟨L,d.ext b (Nat.le_succ a),s,Z⟩ j rfl i):p:=h
theorem CC{p:Prop}(h:p:=by subst a;exact⟨_,rfl,by simp only[rv,so];rfl⟩):p:=h
theorem CD{p:Prop}(h:p:=by simp only[binE,isSh,yM,intE,fY];rfl):p:=h
theorem CE{p:Prop}(h:p:=by rw[hzero];simp only[hfr,Sem.run_bind,newRow,run_newObj,Result.andThen_ok,Sem.run_pure];rfl):p:=h
theorem CG{p:Prop}(h:p:=by rw[decide_eq_true j];exact k):p:=h
theorem CH{p:Prop}(h:p:=by exact px (OX 1000000 60) hr (fun x a=>by simp at a;subst a;rfl) rfl (fun h b=>G_at b) O4):p:=h
theorem CI{p:Prop}(h:p:=by injection a with a;subst e a;exact⟨Z,nb_u⟩):p:=h
theorem CJ{p:Prop}(h:p:=by exact retF _ rfl (zj rfl) R2 ⟨_,rfl,AK⟩):p:=h
theorem CK{p:Prop}(h:p:=by exact Nat.div_le_self _ _):p:=h
theorem CL{p:Prop}(h:p:=by have:M=M':=funext fun k=>funext fun i=>funext fun j=>e k i j;exact this▸m):p:=h
theorem CM{p:Prop}(h:p:=by rintro v h' n' w⟨L,r,e⟩;exact r.uv e):p:=h
theorem CN{p:Prop}(h:p:=by rintro _ rfl;refine Zn ?_;exact retF _ rfl (zj rfl) R2 (by rw[pt s];rfl)):p:=h
theorem CO{p:Prop}(h:p:=by exact(ih.add a).mono (Nat.le_of_eq Al)):p:=h
theorem CP{p:Prop}(h:p:=by obtain⟨q,o,p⟩:=me hg;rw[o];exact⟨_,rfl,by simp[R.view,p]⟩):p:=h
theorem CQ{p:Prop}(h:p:=by obtain⟨g,j,s,p,q⟩:=g;rw[iQ g (by rw[j];exact s) p q,j];exact k):p:=h
theorem CR{p:Prop}(h:p:=by rw[za gP];refine zN ?_;rw[List.getElem?_eq_none Z];exact vG V5 R3):p:=h
theorem CS{p:Prop}(h:p:=by refine G.mono fun e B H=>?_;obtain⟨ρ',rfl,d⟩:=H;exact F _ _ d):p:=h
theorem CU{p:Prop}(h:p:=by refine m _ _ D Z ?_;have V:(a-1)*v2≤4294967296*4294967296:=Nat.mul_le_mul Z Z;have W:4294967296*4294967296≤(b+v1)*4294967296:=Nat.mul_le_mul_right _ i;omega):p:=h
theorem CV{p:Prop}(h:p:=by refine zw [.bool true,.slice a l c] R7 rfl (ze _ _ _) rfl eL ?_;refine zN ?_;exact xu R5 (ze _ _ _) rfl ⟨by rw[decide_eq_true hl];rfl,rfl,rfl,Am⟩):p:=h
theorem CW{p:Prop}(h:p:=by exact Nat.div_add_mod _ _):p:=h
theorem CY{p:Prop}(h:p:=by refine ZB ?_;exact⟨_,_,rfl,⟨fun l=>(by cases l),fun l=>absurd l (hP.i.neg d (dn M))⟩,fun l=>(by cases l)⟩):p:=h
theorem CZ{p:Prop}(h:p:=by refine Zm ?_;rw[za rfl];refine Zc ?_;exact retF _ rfl (zj rfl) R2 (by rw[cmpI,if_neg Z,if_neg Z];rfl)):p:=h
theorem Ca{p:Prop}(h:p:=by rintro⟨e,b,h,a⟩;injection h with h;injection h with h1 h2;subst h1 h2;exact a):p:=h
theorem Cb{p:Prop}(h:p:=by obtain⟨g,p,q,j,s⟩:=g;exact zA ⟨g,p,q,j,s⟩ k):p:=h
theorem Cc{p:Prop}(h:p:=by refine Zn ?_;exact retF [.int .i64 0,.bool false] rfl (xH rfl (xH rfl oi)) R2 ⟨_,_,rfl,fun e=>by cases e⟩):p:=h
theorem Cd{p:Prop}(h:p:=by rw[yH rfl];refine Zi ?_;refine rD (s:=s) (j:=m) R8 Z<|Zi ?_;refine uE (s:=s) (j:=m) R8 Z ?_;rw[e,c];refine Zb ?_;exact retF [.string ⟨⟨T⟩⟩,.string ⟨⟨x::q⟩⟩] rfl rfl R2 rfl):p:=h
theorem Ce{p:Prop}(h:p:=by exact Nat.mod_lt _ zd):p:=h
theorem Cf{p:Prop}(h:p:=by obtain⟨g,p,q,j,s⟩:=g;exact yQ g p q j s k):p:=h
theorem Cg{p:Prop}(h:p:=by exact fun a l c e=>by cases e):p:=h
theorem Ch{p:Prop}(h:p:=by refine zw [.bool false,.slice a l c] R7 rfl (ze _ _ _) rfl eL ?_;refine zN ?_;exact xu R5 (ze _ _ _) rfl ⟨by rw[decide_eq_false hl];rfl,rfl,rfl,Am⟩):p:=h
theorem Ci{p:Prop}(h:p:=by subst R;refine zG ?_;refine sC (sU (k+17) a8.1 _).cx ?_;rintro _ bp ca rfl aj a5;refine zG ?_;refine sQ true (beq_self_eq_true _) ?_;refine Zt ?_;rfl):p:=h
theorem Cj{p:Prop}(h:p:=by rintro v h' n' w⟨L,r,e,_⟩;exact r.ww e):p:=h
theorem Ck{p:Prop}(h:p:=by obtain⟨c,f,g,i,l,m⟩:=c;refine ga ⟨c,f,g,i,l,m⟩ ?_;simp only[j,decide_true,decide_false,Bool.not_true,Bool.not_false];exact k):p:=h
theorem Cm{p:Prop}(h:p:=by refine retH _ ⟨rfl,(zj rfl),rfl⟩ ⟨rfl,rfl,rfl,?_,g⟩;rw[c];rfl):p:=h
theorem Cn{p:Prop}(h:p:=by have:=L.keep (k:=k) (i:=0) q (by have:=u.1;omega) fun j N _ h2 K=>f j ((u.2 j N K).2 Z);rw[Nat.zero_add]at this;exact this):p:=h
theorem Co{p:Prop}(h:p:=by obtain⟨d,hd,rfl⟩:=List.mem_map.1 hN;have:=hok.b3 d hd;omega):p:=h
theorem Cp{p:Prop}(h:p:=by obtain⟨p,off,c,C,F,G,H,_,b,A,B,k,d,e,f,g,rfl,i,j⟩:=RS.at' zd r I;exact⟨p,off,b,A,B,k,d,e,f,g,C,F,G,H,i,j⟩):p:=h
theorem Cq{p:Prop}(h:p:=by simp only;rw[List.length_append,List.length_singleton];omega):p:=h
theorem Cr{p:Prop}(h:p:=by unfold gro;rw[show(3*n+2)%3=2 from Z];rfl):p:=h
theorem Cs{p:Prop}(h:p:=by rw[Nat.mul_comm c' (P*18446744073709551616),Nat.add_mul,Nat.mul_assoc P v w];rw[Nat.mul_comm c P]at a;omega):p:=h
theorem Ct{p:Prop}(h:p:=by exact Nat.beq_refl _):p:=h
theorem Cu{p:Prop}(h:p:=by refine Zm ?_;rw[zc rfl];refine Zc ?_;exact retF _ rfl (zj rfl) R2 (by rw[cmpI,if_neg Z,if_pos c];rfl)):p:=h
theorem Cv{p:Prop}(h:p:=by exact Nat.lt_of_lt_of_le (Nat.lt_of_lt_of_le (YB _) (Nat.pow_le_pow_right zd (show _≤m by omega))) e):p:=h
theorem Cw{p:Prop}(h:p:=by exact tM e a fun ρ w g f i=>⟨qU c.toEnvOk w ρ (fun _=>rfl) hv,eZ c.toEnvOk (fun x=>cd i x) hv⟩):p:=h
theorem Cx{p:Prop}(h:p:=by exact List.mem_of_mem_drop (List.mem_of_mem_take this)):p:=h
theorem Cy{p:Prop}(h:p:=by refine R.mono fun e w' S=>?_;obtain⟨u,rfl,d⟩:=S;exact N _ _ (g a w ρ M H D q B F Z1 u w' d)):p:=h
theorem Cz{p:Prop}(h:p:=by rw[decide_eq_false j];exact k):p:=h
theorem Da{p:Prop}(h:p:=by refine zN ?_;refine ZF ?_;exact goOn (a-1,b+v1) BB V9 ⟨rfl,rfl,rfl,e d,Bo,Bs⟩):p:=h
theorem Db{p:Prop}(h:p:=by refine zN ?_;refine ZF ?_;exact goOn (a-1,b+v1) BB V9 ⟨rfl,rfl,rfl,e Z,Bo,Bs⟩):p:=h
theorem Dc{p:Prop}(h:p:=by intro Z3;have:4294967296*v1≤(a-1)*v1:=Nat.mul_le_mul_right _ Z;omega):p:=h
theorem Dd{p:Prop}(h:p:=by refine zS R6 (zL rfl a (v:=.string ⟨⟨e.v⟩⟩) R2) ⟨(vn cA),rfl⟩ ?_;refine yQ (v:=.bool false) rfl rfl rfl rfl (by show some (Value.bool (e.v==[48]))=_;rw[P]) ?_;refine ZI ?_;rw[za rfl];refine Zc ?_;exact goOn (j+1) (by show E.length-(j+1)<E.length-j;omega) ⟨rfl,rfl,rfl,rfl,dO,trivial⟩ ⟨g.trans i q,by show n≤l+1;omega,rfl,by show j+1≤E.length;omega⟩):p:=h
theorem LA{p:Prop}(h:p:=by have i:Value.slice j d.length d.length=.slice (some ⟨b,o,none⟩) l c:=i;rw[i]at R;have R:3*(n+1+1)≤b:=R;omega):p:=h
theorem LB{p:Prop}(h:p:=by refine Zk ?_;exact zC m ⟨rfl,rfl,rfl,trivial⟩ ⟨rfl,rfl,rfl,Z1,H,q⟩):p:=h
theorem LC{p:Prop}(h:p:=by have S:addW n [bS] (addW n w7 [])=[]:=S;rw[S]at u;exact absurd u List.not_mem_nil):p:=h
theorem aD{p:Prop}(h:p:=by show Value.int .i64 _=Value.int .i64 _;congr 1;omega):p:=h
theorem bR{p:Prop}(h:p:=by show 3*n≤3*n+2;omega):p:=h
theorem cA{p:Prop}(h:p:=by simp):p:=h
theorem dO{p:Prop}(h:p:=by show Value.int .i64 _=Value.int .i64 _;congr 1):p:=h
theorem eL{p:Prop}(h:p:=by show 3*n≤_;omega):p:=h
theorem eN{p:Prop}(h:p:=by simp;omega):p:=h
theorem eP{p:Prop}(h:p:=by show Value.int .i64 _=Value.int .i64 _;rw[List.length_append];rfl):p:=h
theorem eU{p:Prop}(h:p:=by first|exact⟨hx,a⟩|exact⟨a,hx⟩):p:=h
theorem gN{p:Prop}(h:p:=by rw[List.length_append,List.length_drop];omega):p:=h
theorem gP{p:Prop}(h:p:=by show Value.bool _=_;rw[decide_eq_false Z]):p:=h
theorem gV{p:Prop}(h:p:=by show Value.bool _=_;rw[decide_eq_true Z]):p:=h
theorem gZ{p:Prop}(h:p:=by have:=o;simp only[Int.natAbs_neg,Int.natAbs_natCast]at this;omega):p:=h
theorem jx{p:Prop}(h:p:=by have:=p;simp only[Int.natAbs_neg,Int.natAbs_natCast]at this;omega):p:=h
theorem jy{p:Prop}(h:p:=by show 3*n≤3*(n+1)+2;omega):p:=h
theorem kF{p:Prop}(h:p:=by decide+kernel):p:=h
theorem kS{p:Prop}(h:p:=by rw[←hh,ze];rfl):p:=h
theorem kz{p:Prop}(h:p:=by rw[←hh,ze]):p:=h
theorem lj{p:Prop}(h:p:=by simp only[List.mem_singleton];omega):p:=h
theorem mo{p:Prop}(h:p:=by show B<3*n;omega):p:=h
theorem nN{p:Prop}(h:p:=by assumption):p:=h
theorem nP{p:Prop}(h:p:=by rw[List.length_map,List.length_range]):p:=h
theorem nn{p:Prop}(h:p:=by first|exact(mS Z).1|exact(fd Z).1|exact(qe Z ‹_›).1|exact(oH Z ‹_›).1):p:=h
theorem ns{p:Prop}(h:p:=by first|exact(mS Z).2|exact(fd Z).2|exact(qe Z ‹_›).2|exact(oH Z ‹_›).2):p:=h
theorem o0{p:Prop}(h:p:=by show(D++[s]).length≤_;rw[List.length_append,List.length_singleton];omega):p:=h
theorem oc{p:Prop}(h:p:=by rw[List.length_replicate];omega):p:=h
theorem oo{p:Prop}(h:p:=by show Value.int .u64 _=Value.int .u64 _;rw[j]):p:=h
theorem pl{p:Prop}(h:p:=by rw[g];rfl):p:=h
theorem q0{p:Prop}(h:p:=by rw[List.length_take];omega):p:=h
theorem ra{p:Prop}(h:p:=by rw[List.length_append];rfl):p:=h
theorem sN{p:Prop}(h:p:=by have:=e.lt;have:=f.ge;unfold Lw;(try simp only[if_true,if_false,Bool.false_eq_true]);omega):p:=h
theorem sP{p:Prop}(h:p:=by rw[List.length_take,List.length_drop];omega):p:=h
theorem sa{p:Prop}(h:p:=by have:=a.ge;have:=b.lt;unfold Lw;(try simp only[if_true,if_false,Bool.false_eq_true]);omega):p:=h
theorem sk{p:Prop}(h:p:=by have:=a.lt;have:=b.ge;unfold Lw;(try simp only[if_true,if_false,Bool.false_eq_true]);omega):p:=h
theorem sn{p:Prop}(h:p:=by have:=e.ge;have:=f.lt;unfold Lw;(try simp only[if_true,if_false,Bool.false_eq_true]);omega):p:=h
theorem ta{p:Prop}(h:p:=by rw[List.drop_zero,List.take_of_length_le Z]):p:=h
theorem tv{p:Prop}(h:p:=by rw[List.length_map,List.length_range];omega):p:=h
theorem ux{p:Prop}(h:p:=by show Value.int .i64 _=Value.int .i64 _;simp):p:=h
theorem vT{p:Prop}(h:p:=by show j+1≤N;omega):p:=h
theorem xd{p:Prop}(h:p:=by simp[wv,dv]):p:=h
theorem xl{p:Prop}(h:p:=by show i+1≤N;omega):p:=h
theorem y0{p:Prop}(h:p:=by simp<;>omega):p:=h
end Go
namespace Go.GL
open Go
variable {w0 w':World}{ops:Array Oper}{n nt size cap len off m' sz n' n0 bt c l m b d k N:Nat}{β α:Type}{a:Act}{In:Nat→Prop}{Ms W:List Nat}{assign body:Code}{v0 v z:Value}{ty xT:TypeId}{cs vs:List Value}{tm:Array Value}{g' g:Operand→Value}{x y:Operand}{o:Oper}{F:Fence}{P:Program}{Q:Exit→Act→World→Prop}
variable {i j u:Nat}{e t sT:TypeId}{args:List Value}{f:FuncId}
inductive Tr (α:Type) where
 |lf
 |nd (l:Tr α) (v:α) (r:Tr α)
noncomputable def Tr.get{α:Type}(d:α)(t:Tr α):Nat→α:=
 Tr.rec (motive:=fun _=>Nat→α) (fun _=>d)
  (fun _ x _ il ir i=>Jt (motive:=fun _=>α) x (fun j _=>Ii (motive:=fun _=>α) (ir (j/2)) (il (j/2)) (Eh (j%2) 0)) i) t
class Dflt (α:Type) where
 d:α
instance:Dflt Value:=⟨undef⟩
instance {α:Type}:Dflt (Option α):=⟨none⟩
noncomputable def Tr.new{α:Type}(d v:α)(fuel:Nat):Nat→Tr α:=
 Jt (motive:=fun _=>Nat→Tr α) (fun _=>.nd .lf v .lf)
  (fun _ ih i=>Jt (motive:=fun _=>Tr α) (.nd .lf v .lf) (fun j _=>Ii (motive:=fun _=>Tr α) (.nd .lf d (ih (j/2))) (.nd (ih (j/2)) d .lf) (Eh (j%2) 0)) i) fuel
noncomputable def Tr.set{α β:Type}[Dflt α](t:Tr α):Nat→α→(Tr α→Option β)→Option β:=
 Tr.rec (motive:=fun _=>Nat→α→(Tr α→Option β)→Option β) (fun i v k=>k (Tr.new Dflt.d v i i))
  (fun l x r il ir i v k=>Jt (motive:=fun _=>Option β) (k (.nd l v r))
   (fun j _=>Ii (motive:=fun _=>Option β) (ir (j/2) v fun r=>k (.nd l x r)) (il (j/2) v fun l=>k (.nd l x r)) (Eh (j%2) 0)) i) t
noncomputable def Tr.mk{α:Type}(d:α)(n:Nat):Tr α:=Jt (motive:=fun _=>Tr α) .lf (fun _ t=>.nd t d t) n
noncomputable def sW{β:Type}(n:Nat)(k:Nat→β):β:=Jt (motive:=fun _=>β) (k 0) (fun m _=>k (Nat.succ m)) n
noncomputable def Ny{β:Type}(n:Int)(k:Int→β):β:=match n with| .ofNat m=>sW m fun m=>k (.ofNat m)| .negSucc m=>sW m fun m=>k (.negSucc m)
noncomputable def oI{α β:Type}(l:List α):(List α→β)→β:=
 List.rec (motive:=fun _=>(List α→β)→β) (fun k=>k []) (fun a _ ih k=>ih fun l=>k (a::l)) l
noncomputable def M5{β:Type}(a:Addr)(k:Addr→β):β:=match a with|⟨b,o,s⟩=>sW b fun b=>sW o fun o=>match s with|none=>k ⟨b,o,none⟩|some s=>k ⟨b,o,some s⟩
noncomputable def M6{β:Type}(v:Value)(k:Value→β):β:=
 match v with
 | Dk b=>(match b with|true=>k (Dk true)|false=>k (Dk false))
 | U ik n=>Ny n fun n=>k (U ik n)
 | Dl ⟨⟨l⟩⟩=>oI l fun l=>k (Dl ⟨⟨l⟩⟩)
 | Dn (some a)=>M5 a fun a=>k (Dn (some a))
 | Y (some a) l c=>M5 a fun a=>sW l fun l=>sW c fun c=>k (Y (some a) l c)
 | .agg ⟨l⟩=>oI l fun l=>k (.agg ⟨l⟩)
 | .tuple ⟨l⟩=>oI l fun l=>k (.tuple ⟨l⟩)
 |v=>k v
noncomputable def mT{β:Type}:List Value→(List Value→β)→β
 |[],k=>k []
 |a::l,k=>M6 a fun a=>mT l fun l=>k (a::l)
inductive TD where
 |bool|int (k:IntKind)|string|slice (e:TypeId)|array (len:Nat) (e:TypeId)|struct (fs:List (TypeId×Nat))|other
def TD.of:TypeDesc→TD
 | .bool=>.bool
 | .int k=>.int k
 | .string=>.string
 | .slice e=>.slice e
 | .array n e=>.array n e
 | .struct fs=>.struct (fs.toList.map fun f=>(f.type,f.offset))
 |_=>.other
structure Env where
 und:TypeId→Option TD
 inf:TypeId→Option (Nat×Nat×Value)
 fn:FuncId→Option Func
 ext:FuncId→List Value→Option Value
 dT:Nat
 pure:FuncId→Bool
 cmp:TypeId→Option (List (TypeId×Nat))
inductive Blk where
 |row (c:List Value) (e:TypeId)
 |loop (ready:Bool) (pending:Option Code) (t:Tr Value) (nt:Nat) (ps:List Tmp) (assign body:Code) (d:Nat)
 |dfr
 |ro (c:List Value)
def Blk.cells:Blk→Option (List Value)
 | .row c _=>some c
 | .ro c=>some c
 |_=>none
abbrev Hp:=Tr (Option Blk)
noncomputable abbrev Hp.at (h:Hp) (b:Nat):Option Blk:=Tr.get none h b
noncomputable abbrev nth (t:Tr Value) (i:Nat):Value:=Tr.get undef t i
def gro(b:Nat):Bool:=Eh (b%3) 1
structure St where
 t:Tr Value
 h:Hp
 n:Nat
 w:List Nat
inductive Ex where
 |normal|exit (id:Nat)|ret
def pO:Value→Bool
 | Dk _=>true| U _ _=>true| .float _ _=>true| .complex _ _ _=>true| Dl _=>true
 | Dn none=>true| Y none _ _=>true| .nilFunc=>true| .nilIface=>true| .map none=>true| .chan none=>true
 |_=>false
def closed:Value→Bool
 | .agg ⟨l⟩=>l.all pO
 | .tuple ⟨l⟩=>l.all pO
 |v=>pO v
noncomputable def ev(t:Tr Value):Operand→Value
 | .tmp i=>nth t i
 | .const v=>(match closed v with|true=>v|false=>undef)
 | .global g=>Dn (some ⟨3*g,0,none⟩)
 | .func f=>.func (.func f) #[] #[]
noncomputable def kl(h:Hp)(a:Addr)(n:Nat):Option (List Value):=
 match h.at a.block with
 |some x=>(match x.cells with|some c=>(match DX (a.off+n) (O c)&&a.spot.isNone with|true=>some ((c.drop a.off).take n)|false=>none)|none=>none)
 |none=>none
def zv(c:List Value)(off:Nat)(vs:List Value):List Value:=c.take off++(vs++c.drop (off+O vs))
def ones:List Value→Bool
 |[]=>true
 | .agg _::_=>false
 | .tuple _::_=>false
 |_::r=>ones r
noncomputable def pY(h:Hp)(a:Addr)(vs:List Value):Option Hp:=
 match h.at a.block with
 |some (.row c e)=>(match DX (a.off+O vs) (O c)&&(a.spot.isNone&&ones vs)with|true=>oI (zv c a.off vs) fun c=>h.set a.block (some (.row c e)) some|false=>none)
 |_=>none
def isAgg(E:Env)(t:TypeId):Option Bool:=
 match E.und t with
 |some (.struct _)|some (.array _ _)=>some true
 |some _=>some false
 |none=>none
def zr:Value→List Value
 | .agg cs=>cs.toList
 |v=>[v]
noncomputable def mO(E:Env)(t:TypeId)(h:Hp)(a:Addr):Option Value:=
 match isAgg E t,E.inf t with
 |some true,some (sz,_,_)=>(kl h a sz).map fun cs=>.agg cs.toArray
 |some false,_=>match kl h a 1 with|some [v]=>some v|_=>none
 |_,_=>none
inductive R where
 |val (v:Value) (h:Hp) (n:Nat) (w:List Nat)
 |enter (f:FuncId) (args:List Value)
 |round (l:Nat) (args:List Value)
noncomputable def vv(h:Hp)(size n:Nat):Value→Option (List Value)
 | Y (some a) _ _=>if n*size=0 then some []else kl h a (n*size)
 | Y none _ _=>some []
 | Dl s=>some ((s.data.toList.take n).map fun b=>U .u8 b.toNat)
 |_=>none
def lenOf?:Value→Option Nat
 | Y _ n _=>some n
 | Dl s=>some (O s.data.toList)
 |_=>none
noncomputable def M7(h:Hp)(b cells:Nat)(e:TypeId):Bool:=match h.at b with|some (.row c e')=>Eh (O c) cells&&Eh e' e|_=>false
noncomputable def Mp(h:Hp)(n:Nat)(e:TypeId)(cs:List Value)(need cells sz:Nat)(base:Option Addr):Option R:=
 match base with
 |none=>h.set (3*n+1) (some (.row cs e)) fun h=>some (.val (Y (some ⟨3*n+1,0,none⟩) need need) h (n+1) [])
 |some a=>
  match gro a.block with
  |true=>
   match Eh a.off 0&&(a.spot.isNone&&(M7 h a.block cells e&&(ones cs&&Eh (O cs) (need*sz))))with
   |true=>h.set a.block none fun h=>h.set (3*n+1) (some (.row cs e)) fun h=>some (.val (Y (some ⟨3*n+1,0,none⟩) need need) h (n+1) [a.block])
   |false=>none
  |false=>h.set (3*n+1) (some (.row cs e)) fun h=>some (.val (Y (some ⟨3*n+1,0,none⟩) need need) h (n+1) [])
noncomputable def rN(h:Hp)(n size need:Nat)(base:Option Addr)(sLen sCap:Nat)(new:List Value):Option R:=
 match base,new with
 |_,[]=>some (.val (Y base need sCap) h n [])
 |some a,new=>(match pY h (a.add (sLen*size)) new with|some h=>some (.val (Y base need sCap) h n [a.block])|none=>none)
 |none,_=>none
noncomputable def pR(E:Env)(h:Hp)(n:Nat)(sT:TypeId)(s x:Value):Option R:=
 match E.und sT with
 |some (.slice e)=>
  match E.inf e,s,lenOf? x with
  |some (size,bytes,z),Y base sLen sCap,some m=>
   match vv h size m x with
   |some new=>
    match DX ((sLen+m)*bytes) 1099511627776&&(Eh (O (zr z)) size&&DX 1 size&&DX 1 bytes)with
    |true=>
     match DX (sLen+m) sCap with
     |true=>rN h n size (sLen+m) base sLen sCap new
     |false=>
      match vv h size sLen s with
      |some old=>oI (old++new) fun cs=>Mp h n e cs (sLen+m) (sCap*size) size base
      |none=>none
    |false=>none
   |none=>none
  |_,_,_=>none
 |_=>none
noncomputable def Mq(E:Env)(h:Hp)(n:Nat)(dT:TypeId)(d x:Value):Option R:=
 match E.und dT with
 |some (.slice e)=>
  match E.inf e,d,lenOf? x with
  |some (size,_,_),Y base dLen _,some m=>
   match vv h size (Jd m dLen) x,base with
   |some [],_=>some (.val (goInt (Jd m dLen)) h n [])
   |some cs,some a=>(match pY h a cs with|some h=>some (.val (goInt (Jd m dLen)) h n [a.block])|none=>none)
   |_,_=>none
  |_,_,_=>none
 |_=>none
def x1:Int→Int→Bool
 | .ofNat a,.ofNat b=>Eh a b
 | .negSucc a,.negSucc b=>Eh a b
 |_,_=>false
def x3:Int→Int→Bool
 | .ofNat a,.ofNat b=>DX a b
 | .negSucc a,.negSucc b=>DX b a
 | .negSucc _,.ofNat _=>true
 | .ofNat _,.negSucc _=>false
def x2(a b:Int):Bool:= !x3 b a
def MH(op:BinOp)(k:IntKind)(x y:Int):Option Value:=
 let a:=F9 k.bits x
 let b:=F9 k.bits y
 match op with
 | .and=>some (U k (k.wrap (a&&& b).toNat))
 | .or=>some (U k (k.wrap (a|||b).toNat))
 | .xor=>some (U k (k.wrap (a^^^b).toNat))
 | .andNot=>some (U k (k.wrap (a&&& ~~~b).toNat))
 |_=>none
def intE(op:BinOp)(k:IntKind)(a b:Int):Option Value:=
 match op with
 | .add=>some (U k (k.wrap (a+b)))
 | .sub=>some (U k (k.wrap (a-b)))
 | .mul=>some (U k (k.wrap (a*b)))
 | .quo=>if b=0 then none else some (U k (k.wrap (a.tdiv b)))
 | .rem=>if b=0 then none else some (U k (a.tmod b))
 | .and=>MH .and k a b
 | .or=>MH .or k a b
 | .xor=>MH .xor k a b
 | .andNot=>MH .andNot k a b
 | .shl=>none
 | .shr=>none
 | .eql=>some (Dk (x1 a b))
 | .neq=>some (Dk (!(x1 a b)))
 | .lss=>some (Dk (x2 a b))
 | .leq=>some (Dk (x3 a b))
 | .gtr=>some (Dk (x2 b a))
 | .geq=>some (Dk (x3 b a))
def MJ(op:BinOp)(k:IntKind)(a b:Int):Option Value:=
 match op with
 | .shl=>if b<0 then none else some (U k (k.wrap (a*2^(min b.toNat k.bits))))
 | .shr=>if b<0 then none else some (U k (a.fdiv (2^(min b.toNat k.bits))))
 |_=>none
def ikEq:IntKind→IntKind→Bool
 | .i8,.i8=>true| .i16,.i16=>true| .i32,.i32=>true| .i64,.i64=>true| .u8,.u8=>true| .u16,.u16=>true| .u32,.u32=>true| .u64,.u64=>true|_,_=>false
def isSh:BinOp→Bool| .shl=>true| .shr=>true|_=>false
def strE(op:BinOp)(a b:List UInt8):Option Value:=
 match op with
 | .add=>if (O a)+O b≤1099511627776 then some (Dl ⟨⟨a++b⟩⟩)else none
 | .eql=>some (Dk (a==b))
 | .neq=>some (Dk (!(a==b)))
 |_=>none
def Oz(E:Env)(op:BinOp)(t:TypeId)(a b:Bool):Option Value:=
 match op,E.und t with
 | .eql,some .bool=>some (Dk (a==b))
 | .neq,some .bool=>some (Dk (!(a==b)))
 |_,_=>none
def nilE(E:Env)(op:BinOp)(t:TypeId)(a:Bool):Option Value:=
 match op,E.und t with
 | .eql,some (.slice _)=>some (Dk a)
 | .neq,some (.slice _)=>some (Dk (!a))
 |_,_=>none
def Mr(E:Env)(t:TypeId)(cs:List Value)(off:Nat):Option Value:=
 match isAgg E t,E.inf t with
 |some true,some (sz,_,_)=>some (.agg ((cs.drop off).take sz).toArray)
 |some false,_=>cs[off]?
 |_,_=>none
def Nz(E:Env)(t:TypeId):Value→Value→Option Bool
 | U k x,U k' y=>(match E.und t,ikEq k k' with|some (.int _),true=>some (x1 x y)|_,_=>none)
 | Dl x,Dl y=>(match E.und t with|some .string=>some (x.data.toList==y.data.toList)|_=>none)
 | Dk x,Dk y=>(match E.und t with|some .bool=>some (x==y)|_=>none)
 |_,_=>none
def eqFs(E:Env)(a b:List Value):List (TypeId×Nat)→Option Bool
 |[]=>some true
 |(t,off)::r=>
  match Mr E t a off,Mr E t b off with
  |some x,some y=>(match Nz E t x y with|some true=>eqFs E a b r|some false=>some false|none=>none)
  |_,_=>none
def aggE(E:Env)(op:BinOp)(t:TypeId)(a b:List Value):Option Value:=
 match op,E.cmp t with
 | .eql,some fs=>(match eqFs E a b fs with|some v=>some (Dk v)|none=>none)
 | .neq,some fs=>(match eqFs E a b fs with|some v=>some (Dk (!v))|none=>none)
 |_,_=>none
def binE(E:Env)(op:BinOp)(t:TypeId)(x y:Value):Option Value:=
 match x,y with
 | U k a,U k' b=>(match isSh op with|true=>MJ op k a b|false=>(match ikEq k k' with|true=>intE op k a b|false=>none))
 | Dl a,Dl b=>strE op a.data.toList b.data.toList
 | Dk a,Dk b=>Oz E op t a b
 | Y a _ _,Y none _ _=>nilE E op t a.isNone
 | .agg a,.agg b=>aggE E op t a.toList b.toList
 |_,_=>none
def M8(op:UnOp)(x:Value):Option Value:=
 match op,x with
 | .neg,U k n=>some (U k (k.wrap (0-n)))
 | .not,Dk b=>some (.bool !b)
 |_,_=>none
def NA(E:Env)(t:TypeId)(x:Value)(f:Nat):Option Value:=
 match E.und t,x with
 |some (.struct fs),.agg cs=>match fs[f]? with|some fl=>Mr E fl.1 cs.toList fl.2|none=>none
 |_,_=>none
def pH(E:Env)(t:TypeId)(x:Value)(f:Nat):Option Value:=
 match E.und t,x with
 |some (.struct fs),Dn (some a)=>
  match fs[f]? with
  |some fl=>match E.inf fl.1 with|some (sz,_,_)=>if sz=0 then none else some (Dn (some (a.add fl.2)))|none=>none
  |none=>none
 |_,_=>none
def yU(E:Env)(t:TypeId)(x i:Value):Option Value:=
 match i with
 | U _ j=>
  match E.und t,x with
  |some (.array len e),Dn (some a)=>match E.inf e with|some (sz,_,_)=>if 0≤j∧j<len then some (Dn (some (a.add (j.toNat*sz))))else none|none=>none
  |some (.slice e),Y (some a) len _=>match E.inf e with|some (sz,_,_)=>if 0≤j∧j<len then some (Dn (some (a.add (j.toNat*sz))))else none|none=>none
  |_,_=>none
 |_=>none
def gX(E:Env)(t:TypeId)(x i:Value):Option Value:=
 match i with
 | U _ j=>
  match E.und t,x with
  |some (.array len e),.agg cs=>match E.inf e with|some (sz,_,_)=>if 0≤j∧j<len then Mr E e cs.toList (j.toNat*sz)else none|none=>none
  |some .string,Dl s=>if 0≤j then match s.data.toList[j.toNat]? with|some b=>some (U .u8 b.toNat)|none=>none else none
  |_,_=>none
 |_=>none
def Ld(x:Option Value)(d y:Nat):Option Nat:=
 match x with
 |none=>some d
 |some (U _ i)=>if 0≤i∧i≤y then some i.toNat else none
 |_=>none
def offA(cap i sz:Nat)(a:Addr):Addr:=match Eh cap i with|true=>a|false=>a.add (i*sz)
def mr(E:Env)(t:TypeId)(x lo hi mx:Value):Option Value:=
 match E.und t,x,lo,hi,mx with
 |some (.slice e),Y (some a) _ cap,U _ (.ofNat i),U _ (.ofNat j),U _ (.ofNat m)=>
  match E.inf e with
  |some (sz,_,_)=>(match DX i j&&(DX j m&&(DX m cap&&(!gro a.block&&a.spot.isNone)))with|true=>some (Y (some (offA m i sz a)) (j-i) (m-i))|false=>none)
  |none=>none
 |_,_,_,_,_=>none
def endA(n:Nat)(a:Addr):Addr:=⟨a.block,a.off+n,some a.off⟩
def yY(E:Env)(t:TypeId)(x:Value)(lo hi:Option Value):Option Value:=
 match E.und t,x with
 |some .string,Dl s=>
  match Ld hi (O s.data.toList) (O s.data.toList) with
  |some j=>(match Ld lo 0 j with|some i=>some (Dl ⟨⟨(s.data.toList.drop i).take (j-i)⟩⟩)|none=>none)
  |none=>none
 |some (.slice e),Y a len cap=>
  match E.inf e,Ld hi len cap with
  |some (sz,_,_),some j=>
   match Ld lo 0 j with
   |some i=>
    match a with
    |none=>some (Y none (j-i) (cap-i))
    |some a=>(match a.spot,gro a.block&&(DX 1 i&&DX cap i)with|some _,_=>none|none,true=>(match Eh cap i&&Eh j i with|true=>some (Y (some (endA (i*sz) a)) 0 0)|false=>none)|none,false=>some (Y (some (offA cap i sz a)) (j-i) (cap-i)))
   |none=>none
  |_,_=>none
 |some (.array len e),Dn (some a)=>
  match E.inf e,Ld hi len len with
  |some (sz,_,_),some j=>(match Ld lo 0 j,gro a.block||a.spot.isSome with|some i,false=>some (Y (some (offA len i sz a)) (j-i) (len-i))|_,_=>none)
  |_,_=>none
 |_,_=>none
def km(c:List Value)(place:Nat→Option (Nat×Nat)):List (Nat×Value)→Option (List Value)
 |[]=>some c
 |(i,v)::r=>
  match place i with
  |none=>none
  |some (off,size)=>if(zr v).length≠size||off+size>O c then none else km (zv c off (zr v)) place r
def NB(E:Env)(t:TypeId)(ps:List (Nat×Value)):Option Value:=
 match E.und t,E.inf t with
 |some (.struct fs),some (_,_,z)=>
  (km (zr z) (fun i=>match fs[i]? with|some f=>(match E.inf f.1 with|some (sz,_,_)=>some (f.2,sz)|none=>none)|none=>none) ps).map fun l=>.agg l.toArray
 |some (.array _ e),some (_,_,z)=>
  match E.inf e with
  |some (sz,_,_)=>(km (zr z) (fun i=>some (i*sz,sz)) ps).map fun l=>.agg l.toArray
  |none=>none
 |_,_=>none
def K1:Nat→List Value→List Value
 |0,_=>[]
 |n+1,z=>z++K1 n z
def iB(x:Value)(i:Nat):Option Value:=
 match x with
 | .tuple vs=>vs.toList[i]?
 |_=>none
def lenE(E:Env)(t:TypeId)(x:Value):Option Value:=
 match E.und t,x with
 |some .string,Dl s=>some (goInt (O s.data.toList))
 |some (.array n _),_=>some (goInt n)
 |some (.slice _),Y _ n _=>some (goInt n)
 |_,_=>none
def iF(E:Env)(t d:TypeId)(x:Value):Option Value:=
 match E.und t,E.und d,x with
 |some _,some (.int k),U _ n=>some (U k (k.wrap n))
 |some _,some .string,Dl s=>some (Dl s)
 |_,_,_=>none
def oP:List Value→Option (List UInt8)
 |[]=>some []
 | U .u8 m::r=>match oP r with|some l=>some (EV m.toNat::l)|none=>none
 |_=>none
def minE:List Value→Option Value
 |[U k x,U _ y]=>some (U k (if y<x then y else x))
 |_=>none
def maxE:List Value→Option Value
 |[U k x,U _ y]=>some (U k (if x<y then y else x))
 |_=>none
def OA(c a b:Value):Option Value:=match c with| Dk true=>some a| Dk false=>some b|_=>none
def LO(ρ:Operand→Value)(l:Array (Nat×Operand)):List (Nat×Value):=l.toList.map fun p=>(p.1,ρ p.2)
def gH(x:Value):Option Value:=match x with| Dn (some a)=>some (Dn (some a))|_=>none
def OB(E:Env)(ts:List TypeId)(args:List Value):Option Value:=
 match args,ts with
 |[x],[t]=>lenE E t x
 |_,_=>none
def OC(E:Env)(b:Builtin)(ts:List TypeId)(args:List Value):Option Value:=
 match b with
 | .len=>OB E ts args
 | .min=>minE args
 | .max=>maxE args
 |_=>none
def yJ(E:Env)(o:Op)(ρ:Operand→Value):Option Value:=
 match o with
 | .move x=>some (ρ x)
 | .assign x=>some (ρ x)
 | .pick c a b=>OA (ρ c) (ρ a) (ρ b)
 | .build t l=>NB E t (LO ρ l)
 | .nilCheck x=>gH (ρ x)
 | .binOp op t x y _=>binE E op t (ρ x) (ρ y)
 | .unOp op _ x=>M8 op (ρ x)
 | .convert t d x=>iF E t d (ρ x)
 | .makeFunc (.func f) a b=>some (.func (.func f) (a.map ρ) (b.map ρ))
 | .slice t x lo hi none=>yY E t (ρ x) (lo.map ρ) (hi.map ρ)
 | .slice t x (some lo) (some hi) (some m)=>mr E t (ρ x) (ρ lo) (ρ hi) (ρ m)
 | .fieldAddr s x f=>pH E s (ρ x) f
 | .field t x f=>NA E t (ρ x) f
 | .indexAddr t x i=>yU E t (ρ x) (ρ i)
 | .index t x i=>gX E t (ρ x) (ρ i)
 | .extract t i=>iB (ρ t) i
 | .call c=>(match c.callee with| .builtin b=>OC E b c.argTypes.toList (c.args.toList.map ρ)|_=>none)
 |_=>none
structure Mk where
 c:List Value
 e:TypeId
 g:Bool
 s:Option (Nat×Nat)
def qD(E:Env)(t:TypeId)(len:Nat)(l:List (Nat×Value)):Option Mk:=
 match E.und t with
 |some (.slice e)=>
  match E.inf e with
  |some (sz,_,z)=>
   match DX (len*sz) 16777216&&Eh (O (zr z)) sz with
   |true=>(match km (K1 len (zr z)) (fun j=>some (j*sz,sz)) l with|some cs=>some ⟨cs,e,false,some (len,len)⟩|none=>none)
   |false=>none
  |none=>none
 |_=>none
def rM(E:Env)(t:TypeId)(l c:Value):Option Mk:=
 match E.und t,l,c with
 |some (.slice e),U _ (.ofNat len),U _ (.ofNat cap)=>
  match E.inf e with
  |some (sz,by_,z)=>
   match DX len cap&&(DX (cap*by_) 1099511627776&&(DX cap 1099511627776&&Eh (O (zr z)) sz))with
   |true=>some ⟨K1 cap (zr z),e,false,some (len,cap)⟩
   |false=>none
  |none=>none
 |_,_,_=>none
def uV(E:Env)(t d:TypeId)(x:Value):Option Mk:=
 match x,E.und t,E.und d with
 | Dl bs,some _,some (.slice e)=>
  match E.und e,E.inf e with
  |some (.int .u8),some (1,_,_)=>some ⟨bs.data.toList.map fun b=>U .u8 b.toNat,e,true,some (O bs.data.toList,O bs.data.toList)⟩
  |_,_=>none
 |_,_,_=>none
def KX(E:Env)(o:Op)(ρ:Operand→Value):Option Mk:=
 match o with
 | .alloc e=>(match E.inf e with|some (_,_,z)=>some ⟨zr z,e,false,none⟩|none=>none)
 | .box e x=>some ⟨zr (ρ x),e,false,none⟩
 | .buildSlice t len l=>qD E t len (LO ρ l)
 | .makeSlice t l c=>rM E t (ρ l) (ρ c)
 | .convert t d x=>uV E t d (ρ x)
 |_=>none
def Mk.name(m:Mk)(n:Nat):Nat:=match m.g with|true=>3*n+1|false=>3*n+2
def Mk.val(m:Mk)(n:Nat):Value:=match m.s with|none=>Dn (some ⟨m.name n,0,none⟩)|some (l,c)=>Y (some ⟨m.name n,0,none⟩) l c
noncomputable def kx(E:Env)(t:TypeId)(a x:Value)(h:Hp)(n:Nat):Option R:=
 match a,E.inf t with
 | Dn (some ad),some (sz,_,_)=>
  match Eh (O (zr x)) sz with
  |true=>(match pY h ad (zr x)with|some h=>some (.val undef h n [ad.block])|none=>none)
  |false=>none
 |_,_=>none
def ML(E:Env)(f:Value)(args:List Value)(h:Hp)(n:Nat):Option R:=
 match f with
 | .func (.func g) first cap=>(match E.ext g (first.toList++(args++cap.toList))with|some v=>some (.val v h n [])|none=>some (.enter g (first.toList++(args++cap.toList))))
 | .func (.yield l) first _=>some (.round l (first.toList++args))
 |_=>none
noncomputable def appE(E:Env)(ts:List TypeId)(args:List Value)(h:Hp)(n:Nat):Option R:=
 match args,ts with
 |[s,x],[sT,xT]=>(match E.und xT with|some (.int _)=>none|none=>none|_=>pR E h n sT s x)
 |_,_=>none
noncomputable def cpyE(E:Env)(ts:List TypeId)(args:List Value)(h:Hp)(n:Nat):Option R:=
 match args,ts with
 |[s,x],sT::_=>Mq E h n sT s x
 |_,_=>none
noncomputable def pQ(E:Env)(c:Callee)(ts:List TypeId)(ρ:Operand→Value)(args:List Value)(h:Hp)(n:Nat):Option R:=
 match c with
 | .builtin .append=>appE E ts args h n
 | .builtin .copy=>cpyE E ts args h n
 | .value f=>ML E (ρ f) args h n
 |_=>none
noncomputable def effE(E:Env)(o:Op)(ρ:Operand→Value)(h:Hp)(n:Nat):Option R:=
 match o with
 | .store t a x=>kx E t (ρ a) (ρ x) h n
 | .call c=>pQ E c.callee c.argTypes.toList ρ (c.args.toList.map ρ) h n
 |_=>none
noncomputable def MM(E:Env)(t d:TypeId)(x:Value)(h:Hp):Option Value:=
 match x,E.und t,E.und d with
 | Y a len c,some (.slice e),some .string=>
  match E.und e,vv h 1 len (Y a len c)with
  |some (.int .u8),some cs=>(match oP cs with|some l=>some (Dl ⟨⟨l⟩⟩)|none=>none)
  |_,_=>none
 |_,_,_=>none
def KS:Op→Nat
 | .load _ _=>1
 | .alloc _=>2| .box _ _=>2| .buildSlice _ _ _=>2| .makeSlice _ _ _=>2
 | .store _ _ _=>3
 | .convert _ _ _=>4
 | .call c=>(match c.callee with| .builtin .append=>3| .builtin .copy=>3| .builtin _=>0|_=>3)
 |_=>0
noncomputable def tW(E:Env)(o:Op)(ρ:Operand→Value)(h:Hp):Option (Value×Nat):=
 match o with
 | .load t a=>(match ρ a with| Dn (some ad)=>(match mO E t h ad with|some v=>some (v,ad.block)|none=>none)|_=>none)
 |_=>none
structure Cal where
 call:FuncId→List Value→Hp→Nat→Option (Value×Hp×Nat×List Nat)
 yl:Nat→List Value→Hp→Nat→Option (Value×Hp×Nat×List Nat)
structure Ctx where
 E:Env
 C:Cal
 L:Nat
 round:Option Nat
 n0:Nat
 nt:Nat
def addW(n0:Nat):List Nat→List Nat→List Nat
 |[],w=>w
 |b::r,w=>(match DX (3*n0) b with|true=>addW n0 r w|false=>addW n0 r (b::w))
noncomputable def putK{β:Type}(nt:Nat)(t:Tr Value)(d:Option Tmp)(v:Value)(k:Tr Value→Option β):Option β:=
 match d with
 |some i=>(match DX nt i with|true=>none|false=>t.set i v k)
 |none=>k t
noncomputable def done{β:Type}(X:Ctx)(s:St)(d:Option Tmp)(v:Value)(h:Hp)(n:Nat)(w:List Nat)(k:St→Option β):Option β:=
 M6 v fun v=>putK X.nt s.t d v fun t=>sW n fun n=>k {t,h,n,w:=addW X.n0 w s.w}
noncomputable def Mc{β:Type}(X:Ctx)(s:St)(d:Option Tmp)(m:Mk)(k:St→Option β):Option β:=
 oI m.c fun c=>s.h.set (m.name s.n) (some (.row c m.e)) fun h=>done X s d (m.val s.n) h (s.n+1) [] k
noncomputable def effK{β:Type}(X:Ctx)(s:St)(o:Oper)(k:St→List Nat→Option β):Option β:=
 match effE X.E o.op (ev s.t) s.h s.n with
 |some (.val v h n w)=>done X s o.dst v h n w fun s=>k s w
 |some (.enter f args)=>(match X.C.call f args s.h s.n with|some (v,h,n,w)=>done X s o.dst v h n w fun s=>k s w|none=>none)
 |some (.round l args)=>(match X.C.yl l args s.h s.n with|some (v,h,n,w)=>done X s o.dst v h n w fun s=>k s w|none=>none)
 |none=>none
noncomputable def Mi{β:Type}(X:Ctx)(s:St)(o:Oper)(k:St→Option β):Option β:=
 match KS o.op with
 |0=>(match yJ X.E o.op (ev s.t)with|some v=>done X s o.dst v s.h s.n [] k|none=>none)
 |1=>(match tW X.E o.op (ev s.t) s.h with|some (v,_)=>done X s o.dst v s.h s.n [] k|none=>none)
 |2=>(match KX X.E o.op (ev s.t)with|some m=>Mc X s o.dst m k|none=>none)
 |3=>effK X s o fun s _=>k s
 |_=>
  match KX X.E o.op (ev s.t)with
  |some m=>Mc X s o.dst m k
  |none=>
   match o.op with
   | .convert t d x=>(match MM X.E t d (ev s.t x) s.h with|some v=>done X s o.dst v s.h s.n [] k|none=>(match yJ X.E o.op (ev s.t)with|some v=>done X s o.dst v s.h s.n [] k|none=>none))
   |_=>none
noncomputable def uo(ops:List Oper)(t:Tr Value)(o:Oper):Bool:=
 match o.guard with
 |none=>true
 |some (j,b)=>
  match ops[j]? with
  |some g=>(match g.dst with|some d=>(match nth t d with| Dk c=>(match b,c with|true,true=>true|false,false=>true|_,_=>false)|_=>false)|none=>false)
  |none=>false
noncomputable def qa(X:Ctx)(ops:List Oper)(l:List Oper):St→Option St:=
 List.rec (motive:=fun _=>St→Option St) (fun s=>some s)
  (fun o _ ih s=>Ii (motive:=fun _=>Option St) (done X s o.dst undef s.h s.n [] ih) (Mi X s o ih) (uo ops s.t o)) l
structure Dr where
 s:St
 al:List (Nat×Nat)
 ld:List (Nat×Nat)
 ef:List (Nat×Hp×List Nat)
def memN(b:Nat):List Nat→Bool
 |[]=>false
 |c::r=>(match Eh b c with|true=>true|false=>memN b r)
def yd(m:Nat)(W:List Nat):List (Nat×Nat)→Bool
 |[]=>true
 |(i,b)::r=>(match m.testBit i|| !memN b W with|true=>yd m W r|false=>false)
def ot(u b:Nat):List (Nat×Hp×List Nat)→Bool
 |[]=>true
 |(e,_,W)::r=>(match Iu e u|| !memN b W with|true=>ot u b r|false=>false)
def tf(m:Nat):List (Nat×Hp×List Nat)→Nat→Hp→Nat×Hp
 |[],u,h=>(u,h)
 |(e,g,_)::r,u,h=>(match m.testBit e with|true=>tf m r u h|false=>tf m r e g)
def pz(m b:Nat):List (Nat×Nat)→Bool
 |[]=>true
 |(j,c)::r=>(match m.testBit j|| !Nat.beq b c with|true=>pz m b r|false=>false)
def xW(m:Nat):List (Nat×Nat)→Bool
 |[]=>true
 |(j,_)::r=>(match m.testBit j with|true=>xW m r|false=>false)
def fP(m:Nat):List (Nat×Hp×List Nat)→Bool
 |[]=>true
 |(j,_)::r=>(match m.testBit j with|true=>fP m r|false=>false)
noncomputable def MN{β:Type}(X:Ctx)(i m:Nat)(o:Oper)(d:Dr)(k:Dr→Option β):Option β:=
 match KS o.op with
 |1=>
  match tf m d.ef i d.s.h with
  |(u,h)=>
   match tW X.E o.op (ev d.s.t) h with
   |some (v,b)=>(match ot u b d.ef&&pz m b d.al with|true=>done X d.s o.dst v d.s.h d.s.n [] fun s=>k {d with s,ld:=(i,b)::d.ld}|false=>none)
   |none=>none
 |2=>
  match KX X.E o.op (ev d.s.t)with
  |some mk=>Mc X d.s o.dst mk fun s=>k {d with s,al:=(i,mk.name d.s.n)::d.al}
  |none=>none
 |3=>
  match fP m d.ef&&xW m d.al with
  |true=>effK X d.s o fun s W=>(match yd m W d.ld&&DX d.s.n s.n with|true=>k {d with s,ef:=(i,d.s.h,W)::d.ef}|false=>none)
  |false=>none
 |_=>(match yJ X.E o.op (ev d.s.t)with|some v=>done X d.s o.dst v d.s.h d.s.n [] fun s=>k {d with s}|none=>none)
def wu:List Oper→List Nat→List Nat
 |[],acc=>acc
 |o::r,acc=>wu r (acc++[o.after.toList.foldl (fun s e=>match Fv .any e with|true=>s|||2^e.on|||acc.getD e.on 0|false=>s) 0])
noncomputable def vp(X:Ctx)(ops:List Oper):List Oper→List Nat→Nat→Dr→Option St
 |[],_,_,d=>some d.s
 |o::r,m::ms,i,d=>
  match uo ops d.s.t o with
  |true=>MN X i m o d fun d=>vp X ops r ms (i+1) d
  |false=>done X d.s o.dst undef d.s.h d.s.n [] fun s=>vp X ops r ms (i+1) {d with s}
 |_,_,_,_=>none
noncomputable def dE(f:St→Option (Ex×St))(n:Nat):St→Option (Ex×St):=
 Jt (motive:=fun _=>St→Option (Ex×St)) (fun _=>none) (fun _ ih s=>match f s with|some (.normal,s')=>ih s'|r=>r) n
def MO:Bool→Option Code→Option Ex
 |true,none=>some .normal
 |false,some .ret=>some .ret
 |false,some (.exit id)=>some (.exit id)
 |_,_=>none
noncomputable def om(X:Ctx)(g:Value)(ps:List Tmp)(assign body:Code)(s:St):Option (Ex×St):=
 match g,X.round with
 | .func (.func gf) first cap,none=>
  sW (s.n+1) fun l=>sW (l+1) fun n2=>
  s.h.set (3*s.n+2) (some .dfr) fun h=>h.set (3*l+2) (some (.loop true none s.t X.nt ps assign body (3*s.n+2))) fun h=>
  match X.C.call gf (first.toList++([.func (.yield (3*l+2)) #[] #[]]++cap.toList)) h n2 with
  |some (_,h3,n3,w3)=>
   match h3.at (3*l+2),h3.at (3*s.n+2)with
   |some (.loop r p _ _ _ _ _ _),some .dfr=>
    match MO r p with
    |some x=>h3.set (3*l+2) none fun h4=>h4.set (3*s.n+2) none fun h4=>some (x,{t:=s.t,h:=h4,n:=n3,w:=addW X.n0 w3 s.w})
    |none=>none
   |_,_=>none
  |none=>none
 |_,_=>none
noncomputable def uT(X:Ctx)(c:Code):St→Option (Ex×St):=
 Code.rec (motive:=fun _=>St→Option (Ex×St))
  (fun s=>some (.normal,s))
  (fun _ ops draw s=>match draw with
   |false=>(match qa X ops.toList ops.toList s with|some s=>some (.normal,s)|none=>none)
   |true=>(match vp X ops.toList ops.toList (wu ops.toList []) 0 ⟨s,[],[],[]⟩with|some s=>some (.normal,s)|none=>none))
  (fun _ _ ia ib s=>match ia s with|some (.normal,s')=>ib s'|r=>r)
  (fun c _ _ ia ib s=>match ev s.t c with| Dk true=>ia s| Dk false=>ib s|_=>none)
  (fun id _ ib s=>match ib s with|some (.exit j,s')=>(match Eh j id with|true=>some (.normal,s')|false=>some (.exit j,s'))|r=>r)
  (fun _ ib s=>dE ib X.L s)
  (fun f ps assign body _ _ s=>om X (ev s.t f) ps.toList assign body s)
  (fun id s=>some (.exit id,s))
  (fun _ ib s=>ib s)
  (fun _ s=>some (.normal,s))
  (fun _ _=>none)
  (fun s=>some (.ret,s))
  (fun _ _=>none) c
noncomputable def resE(E:Env)(s:St):List ResultVar→Option (List Value)
 |[]=>some []
 | .tmp t::r=>(match resE E s r with|some l=>some (nth s.t t::l)|none=>none)
 | .cell a t::r=>
  match nth s.t a with
  | Dn (some ad)=>(match mO E t s.h ad,resE E s r with|some v,some l=>some (v::l)|_,_=>none)
  |_=>none
noncomputable def mv{β:Type}:List Value→Nat→Tr Value→(Tr Value→Option β)→Option β
 |[],_,t,k=>k t
 |v::r,i,t,k=>t.set i v fun t=>mv r (i+1) t k
def flat:Value→Bool
 | Dk _=>true| U _ _=>true| Dl _=>true|_=>false
def tZ:List Value→Bool
 |[]=>true
 |v::r=>(match flat v with|true=>tZ r|false=>false)
noncomputable def Md(E:Env)(C:Cal)(L:Nat)(f:FuncId)(args:List Value)(h:Hp)(n:Nat):Option (Value×Hp×Nat×List Nat):=
 match E.fn f with
 |some fn=>
  match fn.body with
  |some body=>
   match DX (O args) fn.ntmps with
   |true=>
    mv args 0 (Tr.mk undef E.dT) fun t=>
    match uT {E,C,L,round:=none,n0:=n,nt:=fn.ntmps} body {t,h,n,w:=[]}with
    |some (.exit _,_)=>none
    |some (_,s)=>
     match resE E s fn.results.toList with
     |some vs=>
      mT vs fun vs=>
      match E.pure f&&tZ vs,s.w with
      |true,[]=>some (match vs with|[v]=>v|vs=>.tuple ⟨vs⟩,h,n,[])
      |_,w=>some (match vs with|[v]=>v|vs=>.tuple ⟨vs⟩,s.h,s.n,w)
     |none=>none
    |none=>none
   |false=>none
  |none=>none
 |none=>none
noncomputable def uG(E:Env)(C:Cal)(L:Nat)(l:Nat)(args:List Value)(h:Hp)(n:Nat):Option (Value×Hp×Nat×List Nat):=
 match h.at l with
 |some (.loop true none t0 nt0 ps0 assign0 body0 _)=>
  match Eh (O args) (O ps0) with
  |true=>
   setPs nt0 ps0 args t0 fun t1=>
   match uT {E,C,L,round:=some l,n0:=n,nt:=nt0} assign0 {t:=t1,h,n,w:=[]}with
   |some (.normal,s1)=>
    match s1.h.at l with
    |some (.loop true none t nt ps assign body d)=>
     s1.h.set l (some (.loop false none t nt ps assign body d)) fun h1=>
     match uT {E,C,L,round:=some l,n0:=n,nt:=nt0} body0 {s1 with h:=h1,w:=l::s1.w}with
     |some (x,s2)=>
      match s2.h.at l with
      |some (.loop _ _ t nt ps assign body d)=>
       match x with
       | .normal=>s2.h.set l (some (.loop true none t nt ps assign body d)) fun h2=>some (Dk true,h2,s2.n,l::s2.w)
       | .ret=>s2.h.set l (some (.loop false (some .ret) t nt ps assign body d)) fun h2=>some (Dk false,h2,s2.n,l::s2.w)
       | .exit id=>s2.h.set l (some (.loop false (some (.exit id)) t nt ps assign body d)) fun h2=>some (Dk false,h2,s2.n,l::s2.w)
      |_=>none
     |none=>none
    |_=>none
   |_=>none
  |false=>none
 |_=>none
where
 setPs {β:Type} (nt:Nat):List Tmp→List Value→Tr Value→(Tr Value→Option β)→Option β
  |p::ps,v::vs,t,k=>(match DX nt p with|true=>none|false=>t.set p v fun t=>setPs nt ps vs t k)
  |_,_,t,k=>k t
noncomputable def calN(E:Env)(L:Nat)(k:Nat):Cal:=
 Jt (motive:=fun _=>Cal) ⟨fun _ _ _ _=>none,fun _ _ _ _=>none⟩ (fun _ C=>⟨fun f a h n=>Md E C L f a h n,fun l a h n=>uG E C L l a h n⟩) k
theorem Tr.get_lf(d:α)(i:Nat):Tr.get d .lf i=d:=rfl
theorem Tr.get_zero(d:α)(l:Tr α)(v:α)(r:Tr α):Tr.get d (.nd l v r) 0=v:=rfl
theorem Tr.get_succ(d:α)(l:Tr α)(v:α)(r:Tr α)(j:Nat):
  Tr.get d (.nd l v r) (j+1)=if j%2=0 then Tr.get d l (j/2)else Tr.get d r (j/2):=by
 show Ii (motive:=fun _=>α) (Tr.get d r (j/2)) (Tr.get d l (j/2)) (Eh (j%2) 0)=_;by_cases h:j%2=0
 .rw[De h,h];rfl
 have:j%2=1:=Z;rw[CT h,this];rfl
theorem Tr.get_new(d v:α):∀(f i:Nat),i≤f→∀j,Tr.get d (Tr.new d v f i) j=if j=i then v else d:=by
 intro f;induction f with
 |zero=>
  intro i b j;have:i=0:=Z;subst this;show Tr.get d (.nd .lf v .lf) j=_;cases j with
  |zero=>rfl
  |succ j=>rw[Tr.get_succ];simp[Tr.get_lf]
 |succ f ih=>
  intro i b j;cases i with
  |zero=>
   show Tr.get d (.nd .lf v .lf) j=_;cases j with
   |zero=>rfl
   |succ j=>rw[Tr.get_succ];simp[Tr.get_lf]
  |succ i=>
   have g:Tr.new d v (f+1) (i+1)=if i%2=0 then .nd (Tr.new d v f (i/2)) d .lf else .nd .lf d (Tr.new d v f (i/2)):=by
    show Ii (motive:=fun _=>Tr α) (.nd .lf d (Tr.new d v f (i/2))) (.nd (Tr.new d v f (i/2)) d .lf) (Eh (i%2) 0)=_;by_cases h:i%2=0
    .rw[De h,h];rfl
    have:i%2=1:=Z;rw[CT h,this];rfl
   rw[g];have a:=ih (i/2) Z;by_cases h:i%2=0
   .rw[De h];cases j with
    |zero=>rw[Tr.get_zero];simp
    |succ j=>
     rw[Tr.get_succ,a,Tr.get_lf];by_cases hj:j%2=0
     .by_cases e:j=i
      .subst e;simp[hj]
      have:¬j/2=i/2:=Z;simp[hj,e,this]
     have:¬j=i:=by rintro rfl;exact hj h
     simp[hj,this]
   rw[CT h];cases j with
   |zero=>rw[Tr.get_zero];simp
   |succ j=>
    rw[Tr.get_succ,a,Tr.get_lf];by_cases hj:j%2=0
    .have:¬j=i:=by rintro rfl;exact h hj
     simp[hj,this]
    by_cases e:j=i
    .subst e;simp[hj]
    have:¬j/2=i/2:=Z;simp[hj,e,this]
section
variable [Dflt α]
noncomputable def Tr.put(t:Tr α):Nat→α→Tr α:=
 Tr.rec (motive:=fun _=>Nat→α→Tr α) (fun i v=>Tr.new Dflt.d v i i)
  (fun l x r il ir i v=>Jt (motive:=fun _=>Tr α) (.nd l v r)
   (fun j _=>Ii (motive:=fun _=>Tr α) (.nd l x (ir (j/2) v)) (.nd (il (j/2) v) x r) (Eh (j%2) 0)) i) t
theorem Tr.put_zero(l:Tr α)(x:α)(r:Tr α)(v:α):Tr.put (.nd l x r) 0 v=.nd l v r:=rfl
theorem Tr.put_succ(l:Tr α)(x:α)(r:Tr α)(j:Nat)(v:α):
  Tr.put (.nd l x r) (j+1) v=if j%2=0 then .nd (Tr.put l (j/2) v) x r else .nd l x (Tr.put r (j/2) v):=by
 show Ii (motive:=fun _=>Tr α) (.nd l x (Tr.put r (j/2) v)) (.nd (Tr.put l (j/2) v) x r) (Eh (j%2) 0)=_;by_cases h:j%2=0
 .rw[De h,h];rfl
 have:j%2=1:=Z;rw[CT h,this];rfl
theorem Tr.set_eq:∀(t:Tr α) (i:Nat) (v:α) (k:Tr α→Option β),Tr.set t i v k=k (Tr.put t i v):=by
 intro t;induction t with
 |lf=>intro i v k;rfl
 |nd l x r il ir=>
  intro i v k;cases i with
  |zero=>rfl
  |succ j=>
   rw[Tr.put_succ];show Ii (motive:=fun _=>Option β) (Tr.set r (j/2) v fun r=>k (.nd l x r)) (Tr.set l (j/2) v fun l=>k (.nd l x r)) (Eh (j%2) 0)=_;by_cases h:j%2=0
   .rw[De h,h];exact il _ _ _
   have:j%2=1:=Z;rw[CT h,this];exact ir _ _ _
theorem Tr.get_put(d:α)(a:d=Dflt.d:=by rfl):∀(t:Tr α) (i:Nat) (v:α) (j:Nat),Tr.get d (Tr.put t i v) j=if j=i then v else Tr.get d t j:=by
 intro t;induction t with
 |lf=>
  intro i v j;subst a;exact Tr.get_new _ v i i (Nat.le_refl _) j
 |nd l x rr il ir=>
  intro i v j;cases i with
  |zero=>
   rw[Tr.put_zero];cases j with
   |zero=>rfl
   |succ j=>rw[Tr.get_succ,Tr.get_succ];simp
  |succ i=>
   rw[Tr.put_succ];by_cases hi:i%2=0
   .rw[if_pos hi];cases j with
    |zero=>simp[Tr.get_zero]
    |succ j=>
     rw[Tr.get_succ,Tr.get_succ,il];by_cases hj:j%2=0
     .simp only[hj,if_true];by_cases hji:j=i
      .subst hji;simp
      have:¬j/2=i/2:=Z;simp[this,hji]
     have:¬j=i:=by rintro rfl;exact hj hi
     simp[hj,this]
   rw[if_neg hi];cases j with
   |zero=>simp[Tr.get_zero]
   |succ j=>
    rw[Tr.get_succ,Tr.get_succ,ir];by_cases hj:j%2=0
    .have:¬j=i:=by rintro rfl;exact hi hj
     simp[hj,this]
    simp only[hj,if_false];by_cases hji:j=i
    .subst hji;simp
    have:¬j/2=i/2:=Z;simp[this,hji]
theorem Tr.set_some(d:α)(t:Tr α)(i:Nat)(v:α)(k:Tr α→Option β)(r:β)(h:Tr.set t i v k=some r)(a:d=Dflt.d:=by rfl):
  ∃t',k t'=some r∧∀j,Tr.get d t' j=if j=i then v else Tr.get d t j:=
 ⟨Tr.put t i v,(Tr.set_eq t i v k).symm.trans h,Tr.get_put d a t i v⟩
end
theorem Tr.get_mk(d:α):∀(n i:Nat),Tr.get d (Tr.mk d n) i=d:=by
 intro n;induction n with
 |zero=>intro i;rfl
 |succ n ih=>
  intro i;show Tr.get d (.nd (Tr.mk d n) d (Tr.mk d n)) i=d;cases i with
  |zero=>rfl
  |succ i=>rw[Tr.get_succ];split<;>exact ih _
theorem wb(n:Nat)(k:Nat→β):sW n k=k n:=by cases n<;>rfl
theorem Rt(n:Int)(k:Int→β):Ny n k=k n:=by cases n<;>simp[Ny,wb]
theorem wT(l:List α)(k:List α→β):oI l k=k l:=by
 induction l generalizing k with
 |nil=>rfl
 |cons a l ih=>show oI l (fun l=>k (a::l))=_;rw[ih]
theorem Ru(a:Addr)(k:Addr→β):M5 a k=k a:=by
 obtain⟨b,o,s⟩:=a;cases s<;>simp[M5,wb]
theorem pa(v:Value)(k:Value→β):M6 v k=k v:=by
 unfold M6;split<;>first|rfl|simp[Rt,wT,Ru,wb]|skip
 rename_i b;cases b<;>rfl
theorem kX(l:List Value)(k:List Value→β):mT l k=k l:=by
 induction l generalizing k with
 |nil=>rfl
 |cons a l ih=>simp[mT,pa,ih]
structure Ren where
 b:Nat→Nat
 x:Nat→Nat
 ex:∀n,gro n=false→x n=0
 gl:∀g,b (3*g)=g
def Ren.addr(ρ:Ren)(a:Addr):Addr:=⟨ρ.b a.block,a.off,a.spot⟩
def Ren.adrS(ρ:Ren)(a:Addr)(l c:Nat):Addr:=
 match l,c,a.spot,gro a.block with
 |0,0,some s,true=>if ρ.x a.block=0 then⟨ρ.b a.block,s,none⟩else⟨ρ.b a.block,a.off,none⟩
 |_,_,_,_=>ρ.addr a
theorem Ren.adrS_eq(ρ:Ren){a:Addr}(h:a.spot=none∨l≠0∨c≠0):ρ.adrS a l c=ρ.addr a:=by
 unfold Ren.adrS;split
 .rename_i s hs _;rcases h with h|h|h
  .rw[h]at hs;cases hs
  .exact oU rfl h
  exact oU rfl h
 rfl
theorem Ren.adrS_len(ρ:Ren)(a:Addr){b:Nat}(h:l≤b)(h':b≤c):ρ.adrS a b c=ρ.adrS a l c:=by
 by_cases hc:c=0
 .have d:b=l:=Z;rw[d]
 rw[ρ.adrS_eq (.inr (.inr hc)),ρ.adrS_eq (.inr (.inr hc))]
theorem Ren.adrS_old(ρ:Ren){a:Addr}(h:gro a.block=false)(l c:Nat):ρ.adrS a l c=ρ.addr a:=by
 unfold Ren.adrS;split
 .rename_i hg;rw[h]at hg;cases hg
 rfl
@[simp] theorem Ren.adrS_none(ρ : Ren)(b off l c : Nat) : ρ.adrS ⟨b, off, none⟩ l c = ⟨ρ.b b, off, none⟩ := ρ.adrS_eq (.inl rfl)
def Ren.fn(ρ:Ren):Fn→Fn
 | .yield l=>.yield (ρ.b l)
 |f=>f
mutual
def conc(ρ:Ren):Value→Value
 | Dn (some a)=>Dn (some (ρ.addr a))
 | Y (some a) l c=>Y (some (ρ.adrS a l c)) l (c+ρ.x a.block)
 | .func f a b=>.func (ρ.fn f) (lK ρ a) (lK ρ b)
 | .agg cs=>.agg (lK ρ cs)
 | .tuple cs=>.tuple (lK ρ cs)
 |v=>v
def lK(ρ:Ren):Array Value→Array Value
 |⟨l⟩=>⟨ko ρ l⟩
def ko(ρ:Ren):List Value→List Value
 |[]=>[]
 |v::r=>conc ρ v::ko ρ r
end
theorem Rv(ρ:Ren)(l:List Value):ko ρ l=l.map (conc ρ):=by
 induction l with
 |nil=>simp[ko]
 |cons a l ih=>simp[ko,ih]
theorem iH(ρ:Ren)(l:Array Value):lK ρ l=l.map (conc ρ):=by
 obtain⟨l⟩:=l;simp[lK,Rv]
section
variable (ρ:Ren)
@[simp] theorem rj(b : Bool) : conc ρ (Dk b) = Dk b := by simp[conc]
@[simp] theorem iG(k : IntKind)(n : Int) : conc ρ (U k n) = U k n := by simp[conc]
@[simp] theorem uy(s : ByteArray) : conc ρ (Dl s) = Dl s := by simp[conc]
@[simp] theorem Rw(a : Addr) : conc ρ (Dn (some a)) = Dn (some (ρ.addr a)) := by simp[conc]
@[simp] theorem conc_nil : conc ρ (Dn none) = Dn none := by simp[conc]
@[simp] theorem yb(a : Addr)(l c : Nat) : conc ρ (Y (some a) l c) = Y (some (ρ.adrS a l c)) l (c + ρ.x a.block) := by simp[conc]
@[simp] theorem pc(l c : Nat) : conc ρ (Y none l c) = Y none l c := by simp[conc]
@[simp] theorem lJ(f : Fn)(a b : Array Value) : conc ρ (.func f a b) = .func (ρ.fn f) (a.map (conc ρ)) (b.map (conc ρ)) := by simp[conc, iH]
@[simp] theorem sf(cs : Array Value) : conc ρ (.agg cs) = .agg (cs.map (conc ρ)) := by simp[conc, iH]
@[simp] theorem jh(cs : Array Value) : conc ρ (.tuple cs) = .tuple (cs.map (conc ρ)) := by simp[conc, iH]
@[simp] theorem Rx : conc ρ undef = undef := by simp[undef]
theorem pN(v:Value):(conc ρ v).cells=v.cells.map (conc ρ):=by
 match v with
 | Dn none=>simp[FH]
 | Dn (some _)=>simp[FH]
 | Y none _ _=>simp[FH]
 | Y (some _) _ _=>simp[FH]
 | .func _ _ _=>simp[FH]
 | .agg _=>simp[FH]
 | .tuple _=>simp[FH]
 | Dk _=>simp[FH]
 | U _ _=>simp[FH]
 | .float _ _=>simp[FH,conc]
 | .complex _ _ _=>simp[FH,conc]
 | Dl _=>simp[FH]
 | .map _=>simp[FH,conc]
 | .chan _=>simp[FH,conc]
 | .nilFunc=>simp[FH,conc]
 | .nilIface=>simp[FH,conc]
 | .iface _ _=>simp[FH,conc]
theorem xz(v:Value):zr v=v.cells.toList:=by cases v<;>rfl
theorem yK(v:Value):zr (conc ρ v)=(zr v).map (conc ρ):=by
 rw[xz,xz,pN];simp
end
theorem oO{ρ:Ren}(h:pO v=true):conc ρ v=v:=by
 unfold pO at h;split at h<;>first|(simp[conc];done)|cases h
theorem yL{ρ:Ren}(h:closed v=true):conc ρ v=v:=by
 have a:∀l:List Value,l.all pO=true→l.map (conc ρ)=l:=fun l h=>by
  rw[Fy]at h
  conv=>rhs;rw[←HS l]
  exact EQ fun v b=>oO (h v b)
 unfold closed at h;split at h
 .rename_i l;rw[sf];simp[a l h]
 .rename_i l;rw[jh];simp[a l h]
 exact oO h
def Lc(m:Nat)(ρ ρ':Ren):Prop:=∀b,b<m→ρ'.b b=ρ.b b∧ρ'.x b=ρ.x b
theorem Lc.refl(m:Nat)(ρ:Ren):Lc m ρ ρ:=fun _ _=>⟨rfl,rfl⟩
theorem Lc.trans{a b c:Ren}(h:Lc m a b)(h':Lc m' b c)(e:m≤m'):Lc m a c:=
 fun k d=>⟨(h' k Z).1.trans (h k d).1,(h' k Z).2.trans (h k d).2⟩
theorem Lc.mono{a b:Ren}(h:Lc m a b)(e:m'≤m):Lc m' a b:=fun k d=>h k Z
def Nb(m:Nat)(v:Value):Prop:=∀ρ ρ':Ren,Lc m ρ ρ'→conc ρ' v=conc ρ v
theorem Nb.mono(h:Nb m v)(b:m≤m'):Nb m' v:=fun ρ d a=>h ρ d (a.mono b)
theorem Nb.closed(h:closed v=true):Nb m v:=fun _ _ _=>by rw[yL h,yL h]
theorem Nb.undef:Nb m undef:=fun _ _ _=>by simp
theorem Nb.int{k:IntKind}{n:Int}:Nb m (U k n):=fun _ _ _=>by simp
theorem Nb.bool{b:Bool}:Nb m (Dk b):=fun _ _ _=>by simp
theorem Nb.string{b:ByteArray}:Nb m (Dl b):=fun _ _ _=>by simp
theorem Nb.map{l:List Value}(h:∀v∈l,Nb m v){ρ a:Ren}(b:Lc m ρ a):l.map (conc a)=l.map (conc ρ):=
 EQ fun v d=>h v d ρ a b
section
variable {ρ:Ren}
structure EnvOk (E:Env)(P:Program):Prop where
 und:∀t d,E.und t=some d→∃D,P.underlying t=some D∧TD.of D=d
 fld:∀t fs,E.und t=some (.struct fs)→∀f∈fs,∃r,E.inf f.1=some r
 cmp:∀t fs,E.cmp t=some fs→∃F:Array Field,P.underlying t=some (.struct F)∧fs=F.toList.map (fun f=>(f.type,f.offset))∧(∀f∈F.toList,f.name≠ "_")∧P.stoodInHeld t=false∧P.eqGuardType P.depth t=false
 inf:∀t s b z,E.inf t=some (s,b,z)→(∃i,P.info? t=some i∧i.size=s∧i.bytes=b∧i.zero=some z)∧closed z=true
section
variable {E:Env}{P:Program}(hE:EnvOk E P)
include hE
theorem EnvOk.string(h:E.und t=some .string):P.underlying t=some .string:=by
 obtain⟨D,a,c⟩:=hE.und _ _ h;cases D<;>simp[TD.of]at c<;>exact a
theorem EnvOk.bool(h:E.und t=some .bool):P.underlying t=some .bool:=by
 obtain⟨D,a,c⟩:=hE.und _ _ h;cases D<;>simp[TD.of]at c<;>exact a
theorem EnvOk.int{k:IntKind}(h:E.und t=some (.int k)):P.underlying t=some (.int k):=by
 obtain⟨D,c,a⟩:=hE.und _ _ h;cases D<;>simp[TD.of]at a;subst a;exact c
theorem EnvOk.slice(h:E.und t=some (.slice e)):P.underlying t=some (.slice e):=by
 obtain⟨D,c,a⟩:=hE.und _ _ h;cases D<;>simp[TD.of]at a;subst a;exact c
theorem EnvOk.array(h:E.und t=some (.array n e)):P.underlying t=some (.array n e):=by
 obtain⟨D,c,a⟩:=hE.und _ _ h;cases D<;>simp[TD.of]at a;obtain⟨rfl,rfl⟩:=a;exact c
theorem EnvOk.struct{a:List (TypeId×Nat)}(h:E.und t=some (.struct a)):
  ∃F:Array Field,P.underlying t=some (.struct F)∧a=F.toList.map fun f=>(f.type,f.offset):=by
 obtain⟨D,g,c⟩:=hE.und _ _ h;cases D<;>simp[TD.of]at c;exact⟨_,g,c.symm⟩
theorem EnvOk.some_{d:TD}(h:E.und t=some d):∃D,P.underlying t=some D:=by
 obtain⟨D,a,_⟩:=hE.und _ _ h;exact⟨D,a⟩
theorem yk{s:Nat}(h:E.inf t=some (s,b,z))(w:World):(sizeOf t).run P w=.ok s w:=by
 obtain⟨⟨i,a,c,_⟩,_⟩:=hE.inf _ _ _ _ h;simp[sizeOf,typeInfo,a,c]
theorem qP{s:Nat}(h:E.inf t=some (s,b,z))(w:World):(zeroValue t).run P w=.ok z w:=by
 obtain⟨⟨i,a,_,_,c⟩,_⟩:=hE.inf _ _ _ _ h;simp[zeroValue,typeInfo,a,c]
theorem rG{b:Bool}(h:isAgg E t=some b)(w:World):(af6 t).run P w=.ok b w:=by
 unfold isAgg at h;split at h
 .obtain⟨F,a,_⟩:=hE.struct nN;simp at h;subst h;simp[af6,run_underlying a]
 .have a:=hE.array nN;simp at h;subst h;simp[af6,run_underlying a]
 .rename_i d hs ha hd;obtain⟨D,a,c⟩:=hE.und _ _ hd;simp at h;subst h;cases D<;>simp[TD.of]at c<;>first
   |(simp[af6,run_underlying a];done)
   |(exact(hs _ (by rw[c])).elim)
   |(subst c;exact(hs _ rfl).elim)
   |(exact(ha _ _ rfl).elim)
   |(subst c;exact(ha _ _ rfl).elim)
 cases h
end
theorem fY(a b:Int):x1 a b=(a==b):=by
 cases a<;>cases b<;>simp only[x1]<;>(rw[I4];simp[Nat.beq_eq,af7];try omega)
theorem fX(a b:Int):x3 a b=decide (a≤b):=by
 cases a<;>cases b<;>simp only[x3]<;>(rw[I4];simp[Nat.ble_eq,af7];try omega)
theorem Mt(a b:Int):x2 a b=decide (a<b):=by
 rw[x2,fX,I4];simp
theorem OD{P:Program}(hu:P.underlying t=some .bool)(w:World)(d:Nat)(a b:Bool):(Jl (d+1) t (Dk a) (Dk b)).run P w=.ok (a==b) w:=by
 simp[Jl,run_underlying hu]
theorem Ry{P:Program}(hu:P.underlying t=some (.slice e))(w:World)(d:Nat)(a:Option Addr)(n c f c':Nat):(Jl (d+1) t (Y a n c) (Y none f c')).run P w=.ok a.isNone w:=by
 cases a<;>simp[Jl,run_underlying hu]
section
variable {E:Env}{P:Program}(hE:EnvOk E P)(w:World)
include hE
theorem nw(ρ:Ren)(h:Mr E t cs off=some v):
  (part t (cs.map (conc ρ)).toArray off).run P w=.ok (conc ρ v) w:=by
 unfold Mr at h;split at h
 .rename_i ha hi;simp at h;subst h;simp[part,rG hE ha,yk hE hi,List.extract_eq_take_drop,Hr,IU]
 .rename_i ha;simp[part,rG hE ha,h]
 cases h
theorem OE{x y:Value}{b:Bool}(ρ:Ren)(d:Nat)(h:Nz E t x y=some b):(Jl (d+1) t (conc ρ x) (conc ρ y)).run P w=.ok b w:=by
 unfold Nz at h;split at h
 .rename_i k x k' y;split at h
  .rename_i ki hu hk;have a:k=k':=by cases k<;>cases k'<;>simp[ikEq]at hk<;>rfl
   subst a;injection h with h
   subst h;rw[iG,iG,run_equalIn_int w d t k ki x y (hE.int hu),fY]
  cases h
 .split at h
  .rename_i hu;injection h with h
   subst h;rw[uy,uy,run_equalIn_string w d t _ _ (hE.string hu),Ic,Ic]
  cases h
 .split at h
  .rename_i hu;injection h with h
   subst h;rw[rj,rj];exact OD (hE.bool hu) w d _ _
  cases h
 cases h
theorem Rz {a b:List Value}(ρ:Ren)(d:Nat):∀(F:List Field) (v:Bool),(∀f∈F,f.name≠ "_")→eqFs E a b (F.map fun f=>(f.type,f.offset))=some v→(ac9 (d+1) (a.map (conc ρ)).toArray (b.map (conc ρ)).toArray F).run P w=.ok v w:=by
 intro F;induction F with
 |nil=>intro v _ h;injection h with h;subst h;simp[ac9]
 |cons f F ih=>
  intro v hn h;simp only[GJ]at h;unfold eqFs at h;split at h
  .rename_i x y hx hy;have h1:=nw hE w ρ hx;have h2:=nw hE w ρ hy;simp only[ac9,De (hn f cA),EW,h1,h2,Ey];split at h
   .rename_i he;rw[OE hE w ρ d he];simp only[Ey,JF,FE,if_false];exact ih v (fun g hg=>hn g (by simp[hg])) h
   .rename_i he;rw[OE hE w ρ d he];injection h with h
    subst h;simp
   cases h
  cases h
theorem RA{f:BinOp}{a b:Value}(ρ:Ren)(h:binE E f t a b=some v):
  ((do eqGuard f t x y (conc ρ a) (conc ρ b);binOp f t (conc ρ a) (conc ρ b)):Sem Value).run P w=.ok (conc ρ v) w:=by
 unfold binE at h;split at h
 .rename_i k m k' m';have l:(eqGuard f t x y (conc ρ (U k m)) (conc ρ (U k' m'))).run P w=.ok () w:=by
   simp[eqGuard];try (split<;>simp)
  simp only[EW,l,Ey];split at h
  .rename_i hs;cases f<;>simp[isSh]at hs<;>simp[MJ]at h<;>obtain⟨A,rfl⟩:=h<;>simp[binOp,Op.shift,Int.not_lt.2 A]
  rename_i hs;split at h
  .rename_i hk;have L:k=k':=by cases k<;>cases k'<;>simp[ikEq]at hk<;>rfl
   subst L;cases f<;>simp[isSh]at hs<;>simp[intE,MH]at h<;>first
    |(subst h;simp[binOp,ad1,Op.intBits,Op.intCmp,fY,Mt,fX];done)
    |(subst h;simp[binOp,ad1,Op.intBits,Op.intCmp,fY,Mt,fX];rw[I4];simp;done)
    |(obtain⟨A,rfl⟩:=h;simp[binOp,Op.intDiv,A];done)
  cases h
 .rename_i s s';have l:(eqGuard f t x y (conc ρ (Dl s)) (conc ρ (Dl s'))).run P w=.ok () w:=by
   simp[eqGuard];try (split<;>simp)
  simp only[EW,l,Ey];cases f<;>simp[strE]at h
  .obtain⟨A,rfl⟩:=h;have D:¬((s.size+s'.size:Nat):Int)>IntKind.i64.max:=by
    simp[IntKind.max,IntKind.signed,IntKind.bits];omega
   have e:s++s'=⟨⟨s.data.toList++s'.data.toList⟩⟩:=by
    apply ah3;rw[ByteArray.data_append];apply G2;simp
   simp only[binOp,uy,ad2];rw[CT D,e];simp
  .subst h;simp[binOp,ad2,Ic]
  subst h;simp[binOp,ad2,Ic]
 .rename_i s s';have l:(eqGuard f t x y (conc ρ (Dk s)) (conc ρ (Dk s'))).run P w=.ok () w:=by
   simp[eqGuard];try (split<;>simp)
  simp only[EW,l,Ey];unfold Oz at h;split at h<;>simp at h<;>subst h<;>(have G:=hE.bool nN;simp only[rj,binOp];simp[Op.equal,am2,OD G w 9999])
 .rename_i s n c n' c';have l:(eqGuard f t x y (conc ρ (Y s n c)) (conc ρ (Y none n' c'))).run P w=.ok () w:=by
   cases s<;>simp[eqGuard]<;>try (split<;>simp)
  simp only[EW,l,Ey];unfold nilE at h;split at h<;>simp at h<;>subst h<;>(have G:=hE.slice nN;cases s<;>simp only[yb,pc,binOp]<;>simp[Op.equal,am2,Ry G w 9999])
 .rename_i a b;unfold aggE at h;have C:∀g v,E.cmp t=some g→eqFs E a.toList b.toList g=some v→(eqGuard f t x y (conc ρ (.agg a)) (conc ρ (.agg b))).run P w=.ok () w∧(Jl 10000 t (conc ρ (.agg a)) (conc ρ (.agg b))).run P w=.ok v w:=fun g v p q=>by
   obtain⟨F,J,rfl,M,N,K⟩:=hE.cmp _ _ p;rw[sf,sf];refine⟨run_eqGuard_agg w f t x y _ _ K,?_⟩;have B:P.fieldsOf t=F:=by simp[Program.fieldsOf,J]
   have:=run_equalIn_struct w 9999 t (a.map (conc ρ)) (b.map (conc ρ)) (by rw[B];exact J) N;rw[B]at this;rw[this];have D:=Rz hE w ρ 9998 F.toList v M q;have I:∀z:Array Value,z.map (conc ρ)=(z.toList.map (conc ρ)).toArray:=fun z=>by apply G2;simp
   rw[I a,I b];exact D
  split at h
  .rename_i g p;split at h
   .rename_i v q;injection h with h
    subst h;obtain⟨H,u⟩:=C g v p q;simp only[EW,H,Ey,rj];rw[sf,sf]at u⊢;rw[run_eql_struct,u];rfl
   cases h
  .rename_i g p;split at h
   .rename_i v q;injection h with h
    subst h;obtain⟨H,u⟩:=C g v p q;simp only[EW,H,Ey,rj];rw[sf,sf]at u⊢;rw[run_neq_struct,u];rfl
   cases h
  cases h
 cases h
omit hE in
theorem RB{c:UnOp}{a:Value}(ρ:Ren)(h:M8 c a=some v):(Op.unary c (conc ρ a)).run P w=.ok (conc ρ v) w:=by
 unfold M8 at h;split at h<;>simp at h<;>subst h<;>simp[Op.unary,ad1]
theorem RC{d:TypeId}{a:Value}(ρ:Ren)(h:iF E t d a=some v):(convert t d (conc ρ a)).run P w=.ok (conc ρ v) w:=by
 unfold iF at h;split at h
 .rename_i ht hd;obtain⟨D,c⟩:=hE.some_ ht;have f:=hE.int hd;simp at h;subst h;simp[convert,run_underlying c,run_underlying f,Conv.intToInt]
 .rename_i ht hd;obtain⟨D,c⟩:=hE.some_ ht;have f:=hE.string hd;simp at h;subst h;simp[convert,run_underlying c,run_underlying f]
 cases h
omit hE in
theorem mapA(ρ:Ren)(cs:Array Value):(cs.toList.map (conc ρ)).toArray=cs.map (conc ρ):=by
 obtain⟨l⟩:=cs;simp
theorem RE{a:Value}{f:Nat}(ρ:Ren)(h:NA E t a f=some v):(am3 t (conc ρ a) f).run P w=.ok (conc ρ v) w:=by
 unfold NA at h;split at h
 .rename_i fs cs hu;obtain⟨F,l,rfl⟩:=hE.struct hu;split at h
  .rename_i fl hfl;simp at hfl;obtain⟨m,c,rfl⟩:=hfl;have g:=nw hE w ρ h;rw[mapA]at g;simp[am3,run_underlying l,c,asAgg];exact g
  cases h
 cases h
theorem iz{a:Value}{f:Nat}(ρ:Ren)(h:pH E t a f=some v):(ah4 t (conc ρ a) f).run P w=.ok (conc ρ v) w:=by
 unfold pH at h;split at h
 .rename_i fs ad hu;obtain⟨F,g,rfl⟩:=hE.struct hu;split at h
  .rename_i fl hfl;simp at hfl;obtain⟨l,c,rfl⟩:=hfl;split at h
   .rename_i sz _ _ hi;split at h
    .cases h
    rename_i hsz;simp at h;subst h;simp[ah4,run_underlying g,c,HT,fieldPlace,yk hE hi,hsz,Ren.addr,FX];split<;>rfl
   cases h
  cases h
 cases h
theorem io{a i:Value}(ρ:Ren)(h:yU E t a i=some v):(Kp t (conc ρ a) (conc ρ i)).run P w=.ok (conc ρ v) w:=by
 unfold yU at h;split at h
 .split at h
  .rename_i k j len e ad hu;have f:=hE.array hu;split at h
   .rename_i sz _ _ hi;split at h
    .rename_i hj;simp at h;subst h;simp[Kp,asIntOf,run_underlying f,HT,hj.1,hj.2,yk hE hi,Ren.addr,FX];split<;>rfl
    cases h
   cases h
  .rename_i k j e ad len c hu;have f:=hE.slice hu;split at h
   .rename_i sz _ _ hi;split at h
    .rename_i hj;simp at h;subst h;rw[yb,ρ.adrS_eq (.inr (.inl Z))];simp[Kp,asIntOf,run_underlying f,hj.1,hj.2,yk hE hi,Ren.addr,FX];split<;>rfl
    cases h
   cases h
  cases h
 cases h
theorem RG{a i:Value}(ρ:Ren)(h:gX E t a i=some v):(ad3 t (conc ρ a) (conc ρ i)).run P w=.ok (conc ρ v) w:=by
 unfold gX at h;split at h
 .split at h
  .rename_i k j len e cs hu;have f:=hE.array hu;split at h
   .rename_i sz _ _ hi;split at h
    .rename_i hj;have m:=nw hE w ρ h;rw[mapA]at m;simp[ad3,asIntOf,run_underlying f,hj.1,hj.2,yk hE hi];exact m
    cases h
   cases h
  .rename_i k j _ _ s hu;have f:=hE.string hu;split at h
   .rename_i hj;split at h
    .rename_i b hb;simp at h;subst h;have l:s[j.toNat]?=some b:=by
      have c:j.toNat<O s.data.toList:=(Du.1 hb).1;have:=ByteArray.getElem?_lt' s j.toNat (by simpa using c);rw[this];have g:=Lib.data_getElem? s j.toNat (by simpa using c);rw[hb]at g;exact g.symm
     simp[ad3,asIntOf,run_underlying f,hj,l]
    cases h
   cases h
  cases h
 cases h
omit hE in
theorem d7{a:Value}(ρ:Ren)(h:iB a i=some v):(ah5 (conc ρ a) i).run P w=.ok (conc ρ v) w:=by
 unfold iB at h;split at h
 .simp at h;simp[ah5,h]
 cases h
theorem RH{a:Value}(ρ:Ren)(h:lenE E t a=some v):(JP #[t] ty #[conc ρ a]).run P w=.ok (conc ρ v) w:=by
 unfold lenE at h;split at h
 .rename_i hu;have c:=hE.string hu;simp at h;subst h;simp[JP,run_underlying c,goInt]
 .rename_i hu;have c:=hE.array hu;simp at h;subst h;simp[JP,run_underlying c,goInt]
 .rename_i a _ _ hu;have c:=hE.slice hu;simp at h;subst h;cases a<;>simp[JP,run_underlying c,goInt]
 cases h
omit hE in
theorem OF{y r:Nat}{c:BoundsCode}(h:Ld (some v) d y=some r):(H1 v y c).run P w=.ok r w:=by
 unfold Ld at h;split at h
 .rename_i hx;cases hx
 .rename_i k i hx;injection hx with hx
  subst hx;split at h
  .rename_i hj;simp at h;subst h;simp[H1,asIntOf,hj.1,hj.2]
  cases h
 cases h
omit hE in
theorem rQ{lo g:Option Value}{b:Bool}(ρ:Ren)(x:Nat)(f:Ld g len cap=some j)(a:Ld lo 0 j=some i):
  (Ju b len (cap+x) (lo.map (conc ρ)) (g.map (conc ρ)) none).run P w=.ok (i,j,cap+x) w:=by
 have l:∀v c,g=some v→(H1 (conc ρ v) (cap+x) c).run P w=.ok j w:=by
  rintro v c rfl;have p:Ld (some (conc ρ v)) len (cap+x)=some j:=by
   unfold Ld at f⊢;split at f<;>simp_all;omega
  exact OF w p
 have m:∀v c,lo=some v→(H1 (conc ρ v) j c).run P w=.ok i w:=by
  rintro v c rfl;have q:Ld (some (conc ρ v)) 0 j=some i:=by
   unfold Ld at a⊢;split at a<;>simp_all
  exact OF w q
 unfold Ju;cases g with
 |none=>
  simp[Ld]at f;subst f;cases lo with
  |none=>simp[Ld]at a;subst a;simp
  |some v=>simp[m v _ rfl]
 |some u=>
  cases lo with
  |none=>simp[Ld]at a;subst a;simp[l u _ rfl]
  |some v=>simp[l u _ rfl,m v _ rfl]
omit hE in
theorem OG(ρ:Ren)(a:Addr)(n:Nat):ρ.addr (a.add n)=(ρ.addr a).add n:=by
 unfold FX;split<;>rfl
omit hE in
theorem fL(a:Addr)(n:Nat):(a.add n).block=a.block:=by unfold FX;split<;>rfl
omit hE in
theorem pA(cap i sz:Nat)(a:Addr):(offA cap i sz a).block=a.block:=by
 unfold offA;split
 .rfl
 exact fL _ _
omit hE in
theorem di(ρ:Ren)(cap i sz:Nat)(a:Addr):ρ.addr (offA cap i sz a)=if cap=i then ρ.addr a else(ρ.addr a).add (i*sz):=by
 unfold offA;split
 .rename_i h;rw[De (Eb h)]
 rename_i h;rw[CT (HD h),OG]
omit hE in
theorem RI{a:Addr}(c:(gro a.block&&(DX 1 i&&DX cap i))=false):
  (if cap+ρ.x a.block=i then some (ρ.addr a)else some ((ρ.addr a).add (i*sz)))=some (ρ.addr (offA cap i sz a))∧
  cap+ρ.x a.block-i=cap-i+ρ.x (offA cap i sz a).block:=by
 rw[pA,di];cases hgb:gro a.block with
 |false=>
  have p:=ρ.ex _ hgb;rw[p];refine⟨?_,Z⟩;by_cases h:cap=i<;>simp[h]
 |true=>
  rw[hgb]at c;have f:i=0∨i<cap:=by
   by_cases h0:i=0
   .exact .inl h0
   right;apply Gm;intro g;have l:DX 1 i=true:=Dv Z;have m:DX cap i=true:=Dv g;rw[l,m]at c;cases c
  rcases f with rfl|f
  .refine⟨?_,Z⟩;have e:∀b:Addr,b.add 0=b:=fun b=>by simp[FX]
   simp[e]
  refine⟨?_,Z⟩;rw[CT Z,CT Z]
omit hE in
theorem mJ(cap i sz b off:Nat):(offA cap i sz ⟨b,off,none⟩).spot=none:=by
 unfold offA;split
 .rfl
 unfold FX;split<;>rfl
omit hE in
theorem RJ(a:gro b=true):(if i+ρ.x b=i then some (⟨ρ.b b,off,none⟩:Addr)else some ((⟨ρ.b b,off,none⟩:Addr).add (i*sz)))=some (ρ.adrS (endA (i*sz) ⟨b,off,none⟩) 0 0):=by
 unfold endA Ren.adrS;by_cases hx:ρ.x b=0
 .simp[hx,a]
 simp only[hx,if_false,a];rw[CT Z];unfold FX;split
 .rename_i h0;rw[h0];rfl
 rfl
theorem RK{a:Value}{lo m:Option Value}(ρ:Ren)(h:yY E t a lo m=some v):
  (Hs t (conc ρ a) (lo.map (conc ρ)) (m.map (conc ρ)) none).run P w=.ok (conc ρ v) w:=by
 unfold yY at h;split at h
 .rename_i s hu;have g:=hE.string hu;split at h
  .rename_i j hj;split at h
   .rename_i i hi';simp at h;subst h;have f:=rQ (P:=P) (b:=false) w ρ 0 hj hi';simp at f;simp[Hs,run_underlying g,Jv,f];apply ah3;apply G2;rw[ac0]
   cases h
  cases h
 .rename_i e ad len cap hu;have g:=hE.slice hu;split at h
  .rename_i sz _ _ j hi0 hj;split at h
   .rename_i i hi';split at h
    .simp at h;subst h;have f:=rQ (P:=P) (b:=true) w ρ 0 hj hi';simp at f;simp[Hs,run_underlying g,Jv,f,yk hE hi0]
    rename_i a;have f:=rQ (P:=P) (b:=true) w ρ (ρ.x a.block) hj hi';split at h
    .cases h
    .rename_i c hg;split at h
     .rename_i hc;simp only[Ew]at hc;have u:=Eb hc.1;have A:=Eb hc.2;simp at h;subst h;obtain⟨l,p,q⟩:=a;simp only at c;subst c;simp[Hs,run_underlying g,Jv,f,yk hE hi0];subst u A;exact⟨RJ (by simp only[Ew]at hg;exact hg.1),Z,by show _=ρ.x l;omega⟩
     cases h
    rename_i c hg;simp at h;subst h;obtain⟨l,p,q⟩:=a;simp only at c;subst c;have B:=RI (ρ:=ρ) (sz:=sz) hg;rw[yb,ρ.adrS_none,yb,ρ.adrS_eq (.inl (mJ _ _ _ _ _))];simp[Hs,run_underlying g,Jv,f,yk hE hi0];exact B
   cases h
  cases h
 .rename_i len e a hu;have g:=hE.array hu;split at h
  .rename_i sz _ _ j hi0 hj;split at h
   .rename_i i hi' hg;simp at h;subst h;have f:=rQ (P:=P) (b:=false) w ρ 0 hj hi';simp at f;simp[Hs,run_underlying g,HT,f,yk hE hi0];simp only[Bool.or_eq_false_iff,Option.isSome_eq_false_iff,Option.isNone_iff_eq_none]at hg;obtain⟨l,p,q⟩:=a;have c:=hg.2;simp only at c;subst c;rw[ρ.adrS_eq (.inl (mJ _ _ _ _ _)),pA,di];refine⟨rfl,?_⟩;exact ρ.ex _ hg.1
   cases h
  cases h
 cases h
theorem RL{a lo p q:Value}(ρ:Ren)(h:mr E t a lo p q=some v):
  (Hs t (conc ρ a) (some (conc ρ lo)) (some (conc ρ p)) (some (conc ρ q))).run P w=.ok (conc ρ v) w:=by
 unfold mr at h;split at h
 .rename_i e ad len cap k1 i k2 j k3 m hu;have u:=hE.slice hu;split at h
  .rename_i sz _ _ hi0;split at h
   .rename_i hb;simp only[Ew,FY]at hb;obtain⟨c,f,g,s,l⟩:=hb;rename_i hsz;obtain⟨C,D,B⟩:=ad;have l:B=none:=by simpa using l
    subst l;have c:=D5 c;have f:=D5 f;have g:=D5 g;simp at h;subst h;have A:=ρ.ex _ s;rw[yb,ρ.adrS_none,yb,ρ.adrS_eq (.inl (mJ _ _ _ _ _))];simp[Hs,run_underlying u,Jv,Ju,H1,asIntOf,A,c,f,g,yk hE hi0,pA,di];split<;>rfl
   cases h
  cases h
 cases h
omit hE in
theorem eF:∀(a:List Value) (k:Nat) (cs:List Value) (off:Nat),off+k+O a≤O cs→
  (a.zipIdx k).foldl (fun(cs:Array Value) (p:Value×Nat)=>cs.setIfInBounds (off+p.2) p.1) cs.toArray=(zv cs (off+k) a).toArray:=by
 intro a;induction a with
 |nil=>intro k cs off h;simp[zv]
 |cons v a ih=>
  intro k cs off h;simp only[D3]at h;simp only[List.zipIdx_cons,I5];have e:cs.toArray.setIfInBounds (off+k) v=(cs.set (off+k) v).toArray:=by simp
  rw[e,ih (k+1) _ off eN];congr 1;unfold zv;simp only[D3];have c:(cs.set (off+k) v).take (off+(k+1))=cs.take (off+k)++[v]:=by
   rw[show off+(k+1)=off+k+1 from Z,FZ eN];rw[Kk Dh];simp
  have f:(cs.set (off+k) v).drop (off+(k+1)+O a)=cs.drop (off+k+(O a+1)):=by
   rw[GA Z];congr 1;omega
  rw[c,f];simp
omit hE in
theorem iw(ρ:Ren)(g f:Nat→Option (Nat×Nat))(hp:∀i r,g i=some r→f i=some r):
  ∀(a:List (Nat×Value)) (c r:List Value),km c g a=some r→
   af9 f (c.map (conc ρ)).toArray (a.map fun p=>(p.1,conc ρ p.2))=some (r.map (conc ρ)).toArray:=by
 intro a;induction a with
 |nil=>intro c r h;simp[km]at h;subst h;simp[af9]
 |cons p a ih=>
  intro c r h;obtain⟨i,v⟩:=p;unfold km at h;split at h
  .cases h
  rename_i off size hpl;split at h
  .cases h
  rename_i hc;have s:(conc ρ v).cells.size=O (zr v):=by rw[pN,xz];simp
  simp at hc;simp only[GJ,af9,hp _ _ hpl];rw[CT (by simp[s];omega)];have q:=eF (zr (conc ρ v)) 0 (c.map (conc ρ)) off (by rw[yK];simp;omega);have l:(conc ρ v).cells.zipIdx.foldl (fun cs (x:Value×Nat)=>match x with|(c,j)=>cs.setIfInBounds (off+j) c) (c.map (conc ρ)).toArray=(zv (c.map (conc ρ)) (off+0) (zr (conc ρ v))).toArray:=by
   rw[←q,←Ku];simp[xz]
  rw[l];have m:zv (c.map (conc ρ)) (off+0) (zr (conc ρ v))=(zv c off (zr v)).map (conc ρ):=by
   unfold zv;rw[yK];simp[Hr,IU]
  rw[m];exact ih _ _ h
omit hE in
theorem RN{g:α→Sem β}{k:α→β}(F:Array α)(h:∀f∈F,(g f).run P w=.ok (k f) w):(F.mapM g).run P w=.ok (F.map k) w:=by
 obtain⟨l⟩:=F;rw[Jr];simp only[am5];have:(l.mapM g).run P w=.ok (l.map k) w:=by
  induction l with
  |nil=>simp
  |cons a l ih=>
   simp only[J7,EW];rw[h a cA];simp only[Ey];rw[ih (fun f c=>h f (by simp at c⊢;exact .inr c))];simp
 simp[this]
theorem RO{B:List (Nat×Value)}(ρ:Ren)(h:NB E t B=some v):
  (ad4 t (B.map fun p=>(p.1,conc ρ p.2)).toArray).run P w=.ok (conc ρ v) w:=by
 unfold NB at h;split at h
 .rename_i fs _ _ z hu hz;obtain⟨F,m,rfl⟩:=hE.struct hu;have u:=hE.fld _ _ hu;simp at h;obtain⟨l,q,rfl⟩:=h;have A:(F.mapM fun f=>do pure (f.offset,←sizeOf f.type):Sem (Array (Nat×Nat))).run P w=.ok (F.map fun f=>(f.offset,((E.inf f.type).getD (0,0,undef)).1)) w:=by
   apply RN;intro f a;obtain⟨⟨sz,b,z'⟩,c⟩:=u (f.type,f.offset) (by simp;exact⟨f,a,rfl,rfl⟩);simp[yk hE c,c]
  have a:=iw ρ _ (fun i=>(F.map fun f=>(f.offset,((E.inf f.type).getD (0,0,undef)).1))[i]?) (by
   intro i r c;split at c
   .rename_i f hfi;split at c
    .rename_i sz _ _ hsz;simp at c;subst c;simp at hfi;obtain⟨C,s,rfl⟩:=hfi;simp[s,hsz]
    cases c
   .cases c) _ _ _ q
  have g:(zr z).map (conc ρ)=zr z:=by rw[←yK,yL (hE.inf _ _ _ _ hz).2]
  rw[g,xz]at a;simp at a;simp[ad4,qP hE hz,run_underlying m];simp at A;rw[A];simp[a]
 .rename_i e _ _ z hu hz;have m:=hE.array hu;split at h
  .rename_i sz _ _ hsz;simp at h;obtain⟨l,q,rfl⟩:=h;have a:=iw ρ _ (fun i=>some (i*sz,sz)) (fun _ _ h=>h) _ _ _ q;have g:(zr z).map (conc ρ)=zr z:=by rw[←yK,yL (hE.inf _ _ _ _ hz).2]
   rw[g,xz]at a;simp at a;simp[ad4,qP hE hz,run_underlying m,yk hE hsz,a]
  cases h
 cases h
omit hE in
theorem RP{ts:Array TypeId}(ρ:Ren)(h:minE args=some v):(aj6 ts ty (args.map (conc ρ)).toArray).run P w=.ok (conc ρ v) w:=by
 unfold minE at h;split at h
 .simp at h;subst h;simp[aj6,Builtin.min2]
 cases h
omit hE in
theorem RQ{ts:Array TypeId}(ρ:Ren)(h:maxE args=some v):(aj7 ts ty (args.map (conc ρ)).toArray).run P w=.ok (conc ρ v) w:=by
 unfold maxE at h;split at h
 .simp at h;subst h;simp[aj7,Builtin.max2]
 cases h
theorem qU{g g':Operand→Value}(ρ:Ren)(u:∀x,g' x=conc ρ (g x))(h:yJ E o.op g=some v):
  (execOp g' o).run P w=.ok (.value (conc ρ v)) w:=by
 have s:g'=fun x=>conc ρ (g x):=funext u;subst s;unfold yJ at h;unfold execOp;split at h<;>rename_i ho<;>simp only[ho]
 .simp at h;subst h;simp
 .simp at h;subst h;simp
 .unfold OA at h;split at h<;>simp at h<;>subst h<;>simp[*,asBool]
 .have:=RO hE w ρ h;simp[LO]at this;simp only[EW];rename_i t l;have e:IN (fun x=>match x with|(i,x)=>(i,conc ρ (g x))) l=(KL ((fun p=>(p.fst,conc ρ p.snd)) ∘ fun p=>(p.fst,g p.snd)) l.toList).toArray:=by
   obtain⟨l⟩:=l;simp
  rw[e,this];simp
 .unfold gH at h;split at h
  .rename_i hx;simp at h;subst h;simp[hx]
  cases h
 .rename_i op t x y yt;have:=RA hE w (x:=x) (y:=y) ρ h;simp only[EW]at this⊢;rw[this];simp
 .have:=RB (P:=P) w ρ h;simp[this]
 .have:=RC hE w ρ h;simp[this]
 .simp at h;subst h;rename_i f a b;obtain⟨a⟩:=a;obtain⟨b⟩:=b;simp[Instr.makeFunc,Ren.fn]
 .rename_i t x lo hi;have:=RK hE w ρ h;cases lo<;>cases hi<;>simp at this<;>simp[this]
 .have:=RL hE w ρ h;simp[this]
 .have:=iz hE w ρ h;simp[this]
 .have:=RE hE w ρ h;simp[this]
 .have:=io hE w ρ h;simp[this]
 .have:=RG hE w ρ h;simp[this]
 .have:=d7 (P:=P) w ρ h;simp[this]
 .rename_i c;split at h
  .rename_i b hb;obtain⟨q,args,m⟩:=c;simp at hb;subst hb;unfold OC at h;obtain⟨args⟩:=args;obtain⟨m⟩:=m;split at h
   .unfold OB at h;split at h
    .rename_i x t hx ht;simp at hx ht;subst ht;obtain⟨a,rfl,rfl⟩:=hx;have:=RH hE w (ty:=o.type) ρ h;simp[resolve,invoke,builtin,this]
    cases h
   .have:=RP (P:=P) w (ts:=⟨m⟩) (ty:=o.type) ρ h;simp at this;simp[resolve,invoke,builtin];have e:KL (fun x=>conc ρ (g x)) args=KL (conc ρ ∘ g) args:=rfl;rw[e,this];simp
   .have:=RQ (P:=P) w (ts:=⟨m⟩) (ty:=o.type) ρ h;simp at this;simp[resolve,invoke,builtin];have e:KL (fun x=>conc ρ (g x)) args=KL (conc ρ ∘ g) args:=rfl;rw[e,this];simp
   cases h
  cases h
 cases h
end
end
section
variable {ρ':Ren}
structure TR (ρ:Ren)(t:Tr Value)(nt:Nat)(tm:Array Value):Prop where
 size:tm.size=nt
 at_:∀i,i<nt→tm[i]?=some (conc ρ (nth t i))
 past:∀i,nt≤i→nth t i=undef
theorem TR.getD{ρ:Ren}{t:Tr Value}(h:TR ρ t nt tm)(i:Nat):tm.getD i undef=conc ρ (nth t i):=by
 by_cases hi:i<nt
 .have:=h.at_ i hi;simp[this]
 rw[h.past i Z];have:tm.size≤i:=by rw[h.size];omega
 simp[FA this]
theorem TR.agr{ρ:Ren}{t:Tr Value}(h:TR ρ t nt tm)(d:∀i,Nb m (nth t i))(a:Lc m ρ ρ'):TR ρ' t nt tm:=
 ⟨h.size,fun i c=>by rw[h.at_ i c,d i ρ ρ' a],h.past⟩
structure Rel where
 E:Env
 P:Program
 ok:Code→Prop
def oR(X:Rel)(ρ:Ren)(b:Nat):Blk→Obj→Prop
 | .row c e,o=>∃(junk:List Value) (fz:Nat×Nat),o=.cells (c.map (conc ρ)++junk).toArray e fz∧
   (∀off,off<O c+O junk→¬(fz.1≤off∧off<fz.2))∧(gro b=false→junk=[])∧(∀sz bt z,X.E.inf e=some (sz,bt,z)→O junk=ρ.x b*sz)
 | .loop r p t nt ps assign body d,o=>∃(fn:FuncId) (tm:Array Value),o=.loop {state:=if r then .ready else(if p.isNone then .busy else .done),pending:=p,fn:=fn,tmps:=tm,params:=ps.toArray,assign:=assign,body:=body,defers:=ρ.b d}∧
   TR ρ t nt tm∧X.ok assign∧X.ok body
 | .dfr,o=>o=.deferred (some [])
 | .ro c,o=>∃(e:TypeId) (fz:Nat×Nat),o=.cells (c.map (conc ρ)).toArray e fz
def Me(m:Nat):Blk→Prop
 | .row c _=>∀v∈c,Nb m v
 | .loop _ _ t _ _ _ _ d=>(∀i,Nb m (nth t i))∧d<m
 | .dfr=>True
 | .ro c=>∀v∈c,Nb m v
theorem Me.mono{x:Blk}(h:Me m x)(a:m≤m'):Me m' x:=by
 cases x with
 |row c e=>exact fun v d=>(h v d).mono a
 |loop=>exact⟨fun i=>(h.1 i).mono a,DY h.2 a⟩
 |dfr=>trivial
 |ro c=>exact fun v d=>(h v d).mono a
theorem oR.agr{X:Rel}{ρ:Ren}{x:Blk}{o:Obj}(h:oR X ρ b x o)(g:Me m x)(B:b<m)(f:Lc m ρ ρ'):oR X ρ' b x o:=by
 cases x with
 |row c e=>
  obtain⟨s,j,rfl,l,q,A⟩:=h;refine⟨s,j,?_,l,q,fun D u z C=>?_⟩
  .rw[Nb.map g f]
  rw[(f b B).2];exact A D u z C
 |loop r p t nt ps a bd d=>
  obtain⟨y,tm,rfl,l,q⟩:=h;exact⟨y,tm,by rw[(f d g.2).1],l.agr g.1 f,q⟩
 |dfr=>exact h
 |ro c=>
  obtain⟨e,j,rfl⟩:=h;exact⟨e,j,by rw[Nb.map g f]⟩
structure Sim (X:Rel)(ρ:Ren)(h:Hp)(w:World):Prop where
 blk:∀b x,h.at b=some x→∃o,w.heap[ρ.b b]?=some o∧oR X ρ b x o
 inj:∀b b',(h.at b).isSome→(h.at b').isSome→ρ.b b=ρ.b b'→b=b'
def K9(m:Nat)(h:Hp):Prop:=∀b x,h.at b=some x→b<m∧Me m x
structure Post (X:Rel)(ρ:Ren)(n:Nat)(h:Hp)(w:World)(W:List Nat)(ρ':Ren)(v:Value)(h':Hp)(n':Nat)(w':World):Prop where
 agr:Lc (3*n) ρ ρ'
 le:n≤n'
 sim:Sim X ρ' h' w'
 nb:K9 (3*n') h'
 val:Nb (3*n') v
 wlt:∀b∈W,b<3*n
 wmem:∀b∈W,(h.at b).isSome
 fr:∀k,k<w.heap.size→(∀b∈W,ρ.b b≠k)→w'.heap[k]?=w.heap[k]?
 size:w.heap.size≤w'.heap.size
 os:w'.os=w.os
 tape:w'.tape=w.tape
 out:w'.output=w.output
 new:∀b,3*n≤b→(h'.at b).isSome→(w.heap.size≤ρ'.b b∨∃c∈W,ρ'.b b=ρ.b c)
 old:∀b,b<3*n→b∉W→h'.at b=h.at b
theorem Post.refl{X:Rel}{ρ:Ren}{n:Nat}{h:Hp}{w:World}(f:Sim X ρ h w)(c:K9 (3*n) h)(hv:Nb (3*n) v):Post X ρ n h w [] ρ v h n w:=by
 refine⟨Lc.refl _ _,Dh,f,c,hv,fun _ a=>?_,fun _ a=>?_,fun _ _ _=>rfl,Dh,rfl,rfl,rfl,fun b a d=>?_,fun _ _ _=>rfl⟩
 .cases a
 .cases a
 obtain⟨x,g⟩:=Eg.1 d;have:=(c b x g).1;omega
theorem xc:∀{W w:List Nat},b∈addW n0 W w↔b∈w∨(b∈W∧b<3*n0):=by
 intro W;induction W with
 |nil=>intro w;simp[addW]
 |cons c W ih=>
  intro w;unfold addW;split
  .rename_i hc;have a:=D5 hc;rw[ih];simp;constructor
   .rintro(h|h)
    .exact .inl h
    exact .inr ⟨.inr h.1,h.2⟩
   rintro(h|⟨rfl|h,h'⟩)
   .exact .inl h
   .omega
   exact .inr ⟨h,h'⟩
  rename_i hc;have a:c<3*n0:=by
   apply Gm;intro d;rw[Dv d]at hc;cases hc
  rw[ih];simp;constructor
  .rintro((rfl|h)|h)
   .exact .inr ⟨.inl rfl,a⟩
   .exact .inl h
   exact .inr ⟨.inr h.1,h.2⟩
  rintro(h|⟨rfl|h,h'⟩)
  .exact .inl (.inr h)
  .exact .inl (.inl rfl)
  exact .inr ⟨h,h'⟩
theorem Post.trans{X:Rel}{ρ0 ρ:Ren}{n:Nat}{h0 h h':Hp}{w:World}{o:List Nat}
  (a:Post X ρ0 n0 h0 w0 o ρ v0 h n w)(b:Post X ρ n h w W ρ' v h' n' w'):Post X ρ0 n0 h0 w0 (addW n0 W o) ρ' v h' n' w':=by
 have F:=a.le;refine⟨a.agr.trans b.agr Z,Ed F b.le,b.sim,b.nb,b.val,fun c f=>?_,fun c f=>?_,fun k C l=>?_,Ed a.size b.size,b.os.trans a.os,b.tape.trans a.tape,b.out.trans a.out,fun c f B=>?_,fun c f l=>?_⟩
 .rcases xc.1 f with f|⟨_,f⟩
  .exact a.wlt c f
  exact f
 .rcases xc.1 f with f|⟨f,G⟩
  .exact a.wmem c f
  by_cases h0c:c∈o
  .exact a.wmem c h0c
  rw[←a.old c G h0c];exact b.wmem c f
 .have D:w'.heap[k]?=w.heap[k]?:=by
   refine b.fr k (DY C a.size) fun c f e=>?_;by_cases hcn:c<3*n0
   .refine l c (xc.2 (.inr ⟨f,hcn⟩)) ?_;rw[←(a.agr c hcn).1];exact e
   rcases a.new c Z (b.wmem c f)with g|⟨u,g,p⟩
   .omega
   exact l u (xc.2 (.inl g)) (by rw[←p];exact e)
  rw[D];exact a.fr k C fun c f=>l c (xc.2 (.inl f))
 .have s:∀d,3*n0≤d→(h.at d).isSome→(w0.heap.size≤ρ.b d∨∃c∈addW n0 W o,ρ.b d=ρ0.b c):=fun d q A=>by
   rcases a.new d q A with g|⟨u,g,p⟩
   .exact .inl g
   exact .inr ⟨u,xc.2 (.inl g),p⟩
  by_cases hcn:c<3*n
  .have A:(h.at c).isSome:=by
    by_cases j:c∈W
    .exact b.wmem c j
    rw[←b.old c hcn j];exact B
   rw[(b.agr c hcn).1];exact s c f A
  rcases b.new c Z B with g|⟨d,g,p⟩
  .exact .inl (Ed a.size g)
  rw[p];by_cases q:d<3*n0
  .exact .inr ⟨d,xc.2 (.inr ⟨g,q⟩),(a.agr d q).1⟩
  exact s d Z (b.wmem d g)
 have j:c∉o:=fun h=>l (xc.2 (.inl h));have y:c∉W:=fun h=>l (xc.2 (.inr ⟨h,f⟩));rw[b.old c Z y,a.old c f j]
theorem pq(P:Program)(w:World)(a:Addr):∀(l:List Value) (i:Nat) (acc:Array Value),(∀j u,l[j]?=some u→w.cell? (a.add (i+j))=some u)→
  (loadCellsFrom a i (O l) acc).run P w=.ok (acc++l.toArray) w:=by
 intro l;induction l with
 |nil=>intro i acc _;simp[loadCellsFrom]
 |cons v l ih=>
  intro i acc h;have c:w.cell? (a.add i)=some v:=h 0 v rfl;simp only[D3,loadCellsFrom,EW,run_load,c,Ey];rw[ih (i+1) (acc.push v) (fun j u d=>by rw[show i+1+j=i+(j+1)from Z];exact h (j+1) u d)];simp
theorem qQ(P:Program)(w:World)(a:Addr)(l:List Value)(n:Nat)(c:n=O l)(h:∀j u,l[j]?=some u→w.cell? (a.add j)=some u):
  (loadCells a n).run P w=.ok l.toArray w:=by
 subst c;unfold loadCells;rw[pq P w a l 0 #[] (fun j u d=>by rw[D7];exact h j u d)];simp
section
variable {X:Rel}{ρ:Ren}{h:Hp}{w:World}
theorem RR(q:Sim X ρ h w){c:List Value}{x:Blk}(p:h.at b=some x)(a:x.cells=some c){u:Value}(hu:c[i]?=some u):
  w.cell? ⟨ρ.b b,i,none⟩=some (conc ρ u):=by
 obtain⟨o,f,g⟩:=q.blk b _ p;have d:i<O c:=(Du.1 hu).1;have e:=(Du.1 hu).2;cases x with
 |row c' j=>
  injection a with a
  subst a;obtain⟨s,l,rfl,_⟩:=g;simp[I0,f,List.getElem?_append,d,e]
 |ro c'=>
  injection a with a
  subst a;obtain⟨j,l,rfl⟩:=g;simp[I0,f,d,e]
 |loop=>cases a
 |dfr=>cases a
theorem nK(a:Addr)(h:a.spot=none)(n:Nat):a.add n=⟨a.block,a.off+n,none⟩:=by
 obtain⟨b,o,s⟩:=a;subst h;unfold FX;split
 .rename_i h;subst h;rfl
 rfl
theorem wL{a:Addr}{n:Nat}(d:kl h a n=some cs):
  ∃c x,h.at a.block=some x∧x.cells=some c∧a.spot=none∧a.off+n≤O c∧cs=(c.drop a.off).take n:=by
 unfold kl at d;split at d
 .rename_i x hb;split at d
  .rename_i c hx;split at d
   .rename_i hc;simp at hc d;exact⟨c,x,hb,hx,hc.2,hc.1,d.symm⟩
   cases d
  cases d
 cases d
theorem qq(s:Sim X ρ h w){a:Addr}{n:Nat}(p:kl h a n=some cs):
  (O cs)=n∧∀j u,(cs.map (conc ρ))[j]?=some u→w.cell? ((ρ.addr a).add j)=some u:=by
 obtain⟨c,x,l,y,f,q,rfl⟩:=wL p;refine⟨eN,fun j u g=>?_⟩;rw[List.getElem?_map,HE]at g;obtain⟨v,d,rfl⟩:=g;rw[nK (ρ.addr a) f];have o:j<n:=by
  have:=(Du.1 d).1;simp at this;omega
 rw[List.getElem?_take_of_lt o,List.getElem?_drop]at d;exact RR s l y d
theorem jX(p:K9 m h){a:Addr}{n:Nat}(l:kl h a n=some cs):∀v∈cs,Nb m v:=by
 obtain⟨c,x,j,d,s,o,rfl⟩:=wL l;intro v q;have f:=(p _ _ j).2;have g:=FB (EB q);cases x with
 |row c' e'=>injection d with d;subst d;exact f v g
 |ro c'=>injection d with d;subst d;exact f v g
 |loop=>cases d
 |dfr=>cases d
theorem Nb.agg{l:List Value}(c:∀v∈l,Nb m v):Nb m (.agg l.toArray):=fun ρ ρ' a=>by
 simp[Nb.map c a]
theorem Nb.tuple{l:List Value}(c:∀v∈l,Nb m v):Nb m (.tuple l.toArray):=fun ρ ρ' a=>by
 simp[Nb.map c a]
theorem mN(j:EnvOk X.E X.P)(s:Sim X ρ h w)(q:K9 m h){a:Addr}(f:mO X.E t h a=some v):
  (loadVar t (ρ.addr a)).run X.P w=.ok (conc ρ v) w∧Nb m v∧∃x,h.at a.block=some x:=by
 unfold mO at f;split at f
 .rename_i sz _ _ hg hi;simp at f;obtain⟨cs,d,rfl⟩:=f;obtain⟨g,o⟩:=qq s d;obtain⟨c,e,l,_⟩:=wL d;refine⟨?_,Nb.agg (jX q d),_,l⟩;have:=qQ X.P w (ρ.addr a) (cs.map (conc ρ)) sz BS o;simp[loadVar,rG j hg,yk j hi,this]
 .rename_i hg;split at f
  .rename_i u d;simp at f;subst f;obtain⟨g,o⟩:=qq s d;obtain⟨c,e,l,_⟩:=wL d;refine⟨?_,jX q d u cA,_,l⟩;have p:=o 0 (conc ρ u) cA;have y:(ρ.addr a).add 0=ρ.addr a:=by simp[FX]
   rw[y]at p;simp[loadVar,rG j hg,p]
  cases f
 cases f
end
structure Same (k:Nat)(w w':World):Prop where
 far:∀j,j≠k→w'.heap[j]?=w.heap[j]?
 size:w'.heap.size=w.heap.size
 os:w'.os=w.os
 tape:w'.tape=w.tape
 out:w'.output=w.output
theorem qc(P:Program){fz:Nat×Nat}:∀(vs:List Value) (i:Nat) (c:List Value) (w:World),w.heap[k]?=some (.cells c.toArray e fz)→
  off+i+O vs≤O c→(∀p,p<O c→¬(fz.1≤p∧p<fz.2))→(∀v∈vs,v.oneCell'=true)→
  ∃w',(storeCells ⟨k,off,none⟩ vs i).run P w=.ok () w'∧w'.heap[k]?=some (.cells (zv c (off+i) vs).toArray e fz)∧Same k w w':=by
 intro vs;induction vs with
 |nil=>
  intro i c w d _ _ _;refine⟨w,by simp[storeCells],?_,fun _ _=>rfl,rfl,rfl,rfl,rfl⟩;simp[zv,d]
 |cons v vs ih=>
  intro i c w d q l f;simp only[D3]at q;have o:(⟨k,off,none⟩:Addr).add i=⟨k,off+i,none⟩:=nK _ rfl _;have g:∃u,w.cell? ⟨k,off+i,none⟩=some u:=by
   refine⟨c[off+i]'Z,?_⟩;simp[I0,d]
  obtain⟨u,s⟩:=g;have y:w.frozen? ⟨k,off+i,none⟩=false:=by
   have:=l (off+i) Z;simp[World.frozen?,d];omega
  have C:(store (⟨k,off+i,none⟩:Addr) v).run P w=.ok () (w.setCell ⟨k,off+i,none⟩ v):=by
   rw[run_store P w _ v _ (f v cA)];simp[s,y]
  have B:(w.setCell ⟨k,off+i,none⟩ v).heap[k]?=some (.cells (c.set (off+i) v).toArray e fz):=by
   simp[Kq,II,d]
  obtain⟨w',F,G,a⟩:=ih (i+1) (c.set (off+i) v) (w.setCell ⟨k,off+i,none⟩ v) B eN (by simpa using l) (fun u s=>f u (by simp[s]));refine⟨w',?_,?_,fun j A=>?_,?_,?_,?_,?_⟩
  .simp only[storeCells,EW,o,C,Ey];exact F
  .rw[G];congr 3;unfold zv;simp only[D3];have f:(c.set (off+i) v).take (off+(i+1))=c.take (off+i)++[v]:=by
    rw[show off+(i+1)=off+i+1 from Z,FZ eN];rw[Kk Dh];simp
   have D:(c.set (off+i) v).drop (off+(i+1)+O vs)=c.drop (off+i+(O vs+1)):=by
    rw[GA Z];congr 1;omega
   rw[f,D];simp
  .rw[a.far j A];simp[Kq,II];intro h;exact oU h.symm A
  .rw[a.size];simp[Kq]
  .rw[a.os];rfl
  .rw[a.tape];rfl
  rw[a.out];rfl
theorem am:∀{vs:List Value},ones vs=true→∀v∈vs,v.oneCell'=true:=by
 intro vs;induction vs with
 |nil=>intro _ v a;cases a
 |cons u vs ih=>
  intro h v a;cases u<;>simp[ones]at h<;>(rcases DR.1 a with rfl|a)<;>first|rfl|exact ih h v a
theorem an{ρ:Ren}(h:v.oneCell'=true):(conc ρ v).oneCell'=true:=by
 match v with
 | Dn none=>simpa using h
 | Dn (some _)=>simp[FT]
 | Y none _ _=>simpa using h
 | Y (some _) _ _=>simp[FT]
 | .func _ _ _=>simp[FT]
 | .agg _=>cases h
 | .tuple _=>cases h
 | Dk _=>simp[FT]
 | U _ _=>simp[FT]
 | .float _ _=>simp[FT,conc]
 | .complex _ _ _=>simp[FT,conc]
 | Dl _=>simp[FT]
 | .map _=>simp[FT,conc]
 | .chan _=>simp[FT,conc]
 | .nilFunc=>simp[FT,conc]
 | .nilIface=>simp[FT,conc]
 | .iface _ _=>simp[FT,conc]
theorem RT(f:Value→Value)(c vs junk:List Value)(off:Nat)(h:off+O vs≤O c):
  zv (c.map f++junk) off (vs.map f)=(zv c off vs).map f++junk:=by
 unfold zv;rw[Fk eN,List.drop_append_of_le_length eN];simp[Hr,IU]
theorem jF(c vs:List Value)(off:Nat)(h:off+O vs≤O c):O (zv c off vs)=O c:=by
 unfold zv;simp;omega
theorem kH{c:List Value}(h:v∈zv c off vs):v∈c∨v∈vs:=by
 unfold zv at h;simp at h;rcases h with h|h|h
 .exact .inl (EB h)
 .exact .inr h
 exact .inl (FB h)
section
variable {X:Rel}{ρ:Ren}{h h':Hp}{w:World}
theorem qg{a:Addr}(d:pY h a vs=some h'):
  ∃c e,h.at a.block=some (.row c e)∧a.spot=none∧a.off+O vs≤O c∧ones vs=true∧∀b,h'.at b=if b=a.block then some (.row (zv c a.off vs) e)else h.at b:=by
 unfold pY at d;split at d
 .rename_i c e hb;split at d
  .rename_i hc;simp at hc;rw[wT]at d;obtain⟨j,f,g⟩:=Tr.set_some none _ _ _ _ _ d;injection f with f
   subst f;exact⟨c,e,hb,hc.2.1,hc.1,hc.2.2,g⟩
  cases d
 cases d
theorem pm(P:Program)(D:Sim X ρ h w)(C:K9 (3*n) h){a:Addr}(hv:∀v∈vs,Nb (3*n) v)(L:pY h a vs=some h'):
  ∃w',(storeCells (ρ.addr a) (vs.map (conc ρ))).run P w=.ok () w'∧∀v,Nb (3*n) v→Post X ρ n h w [a.block] ρ v h' n w':=by
 obtain⟨c,e,g,K,A,T,p⟩:=qg L;obtain⟨o,V,B,S,rfl,F,Z4,hx⟩:=D.blk _ _ g;obtain⟨w',Z3,hw,l⟩:=qc P (off:=a.off) (vs.map (conc ρ)) 0 (c.map (conc ρ)++B) w V eN (by simpa using F)
  (fun v hv=>by
   simp at hv;obtain⟨u,Z0,rfl⟩:=hv;exact an (am T u Z0))
 refine⟨w',?_,fun v N=>?_⟩
 .have:ρ.addr a=⟨ρ.b a.block,a.off,none⟩:=by unfold Ren.addr;rw[K]
  rw[this];exact Z3
 have q:=(C _ _ g).1;refine⟨Lc.refl _ _,Dh,⟨fun b x d=>?_,fun b R j y s=>?_⟩,fun b x d=>?_,N,?_,?_,fun k hk G=>?_,by rw[l.size];exact Fu _,l.os,l.tape,l.out,fun b H j=>?_,fun b H G=>?_⟩
 .rw[p]at d;split at d
  .rename_i hba;subst hba;injection d with d
   subst d;refine⟨_,hw,B,S,?_,?_,Z4,hx⟩
   .rw[Ej,RT _ _ _ _ _ A]
   rw[jF _ _ _ A];exact F
  rename_i hba;obtain⟨o',I,J⟩:=D.blk b x d;refine⟨o',?_,J⟩;rw[l.far _ (fun s=>hba (D.inj b a.block (by rw[d];rfl) pl s))];exact I
 .apply D.inj b R _ _ s
  .rw[p]at j;split at j
   .rename_i hba;subst hba;rw[g];rfl
   exact j
  rw[p]at y;split at y
  .rename_i hba;subst hba;rw[g];rfl
  exact y
 .rw[p]at d;split at d
  .rename_i hba;subst hba;injection d with d
   subst d;refine⟨q,fun v M=>?_⟩;rcases kH M with h|h
   .exact(C _ _ g).2 v h
   exact hv v h
  exact C b x d
 .intro b f;simp at f;subst f;exact q
 .intro b f;simp at f;subst f;rw[g];rfl
 .rw[l.far];exact fun e=>G a.block cA e.symm
 .rw[p]at j;split at j
  .rename_i hba;subst hba;omega
  obtain⟨x,Z1⟩:=Eg.1 j;have:=(C b x Z1).1;omega
 rw[p,CT (fun s=>G (by simp[s]))]
def Ren.upd(ρ:Ren)(b k x:Nat)(hx:gro b=false→x=0)(hb:b%3≠0):Ren where
 b c:=if c=b then k else ρ.b c
 x c:=if c=b then x else ρ.x c
 ex c hc:=by
  split
  .rename_i h;subst h;exact hx hc
  exact ρ.ex c hc
 gl g:=by
  rw[CT Z];exact ρ.gl g
theorem Ren.upd_agr(ρ:Ren)(b k x:Nat)(d:gro b=false→x=0)(a:b%3≠0)(g:m≤b):Lc m ρ (ρ.upd b k x d a):=fun c f=>by
 simp[Ren.upd,show ¬c=b from Z]
theorem ny(I:Sim X ρ h w)(A:K9 (3*n) h){x:Nat}{y:Blk}{o:Obj}(J:gro b=false→x=0)(q:b%3≠0)(T:3*n≤b)(K:b<3*(n+1))
  (M:k=w.heap.size)(hh:w'.heap=w.heap.push o)(P:w'.os=w.os)(R:w'.tape=w.tape)(G:w'.output=w.output)
  (s:∀c,h'.at c=if c=b then some y else h.at c)(H:oR X (ρ.upd b k x J q) b y o)(N:Me (3*n) y)(hv:Nb (3*(n+1)) v):
  Post X ρ n h w [] (ρ.upd b k x J q) v h' (n+1) w':=by
 have p:=ρ.upd_agr b k x J q T;have u:∀c z,h.at c=some z→ρ.b c<w.heap.size:=fun c z a=>by
  obtain⟨S,B,_⟩:=I.blk c z a;exact(Ei.1 B).1
 refine⟨p,Z,⟨fun c z a=>?_,fun c g l F D=>?_⟩,fun c z a=>?_,hv,fun _ a=>oU a Ds,fun _ a=>oU a Ds,fun j V _=>?_,?_,P,R,G,fun c a l=>?_,fun c a _=>?_⟩
 .rw[s]at a;split at a
  .rename_i hcb;subst hcb;injection a with a
   subst a;refine⟨o,?_,H⟩;simp[Ren.upd,hh,M]
  rename_i hcb;obtain⟨S,B,Z4⟩:=I.blk c z a;have Z3:=u c z a;refine⟨S,?_,Z4.agr (A c z a).2 (A c z a).1 p⟩;simp only[Ren.upd,CT hcb,hh];rw[Ie,CT Z];exact B
 .have f:∀d,(h'.at d).isSome→d≠b→(h.at d).isSome:=fun d L Z1=>by rw[s,CT Z1]at L;exact L
  by_cases h1:c=b
  .by_cases h2:g=b
   .rw[h1,h2]
   obtain⟨z,C⟩:=Eg.1 (f g F h2);have:=u g z C;simp[Ren.upd,h1,h2]at D;omega
  obtain⟨z,C⟩:=Eg.1 (f c l h1);have:=u c z C;by_cases h2:g=b
  .simp[Ren.upd,h1,h2]at D;omega
  simp[Ren.upd,h1,h2]at D;exact I.inj c g (f c l h1) (f g F h2) D
 .rw[s]at a;split at a
  .rename_i hcb;subst hcb;injection a with a
   subst a;exact⟨K,N.mono Z⟩
  exact⟨by have:=(A c z a).1;omega,(A c z a).2.mono Z⟩
 .rw[hh,Ie,CT Z]
 .rw[hh];simp
 .rw[s]at l;split at l
  .rename_i hcb;left;simp[Ren.upd,hcb,M]
  obtain⟨z,C⟩:=Eg.1 l;have:=(A c z C).1;omega
 rw[s,CT Z]
end
end
theorem OH(z:List Value)(sz:Nat)(a:O z=sz)(n:Nat):((ad5 (n*sz)).map fun i=>(z.toArray)[i%z.toArray.size]!)=(K1 n z).toArray:=by
 induction n with
 |zero=>simp[K1]
 |succ n ih=>
  apply G2;have d:(IN (fun i=>(z.toArray)[i%z.toArray.size]!) (ad5 ((n+1)*sz))).toList=(D9 ((n+1)*sz)).map fun i=>(z.toArray)[i%z.toArray.size]! :=by simp
  have e:(D9 (n*sz)).map (fun i=>(z.toArray)[i%z.toArray.size]!)=K1 n z:=by
   have:=congrArg Array.toList ih;simpa using this
  rw[d,show(n+1)*sz=sz+n*sz from by rw[Fb];omega,List.range_add,EN];show _=z++K1 n z;congr 1
  .apply List.ext_getElem
   .simp[a]
   intro i b c;simp at b;simp[a,Nat.mod_eq_of_lt b];rw[Dm c];rfl
  rw[←e,List.map_map];apply EQ;intro i _;simp[a]
theorem RU(z:List Value)(n:Nat):O (K1 n z)=n*O z:=by
 induction n with
 |zero=>simp[K1]
 |succ n ih=>simp[K1,ih,Fb];omega
theorem pr{z:List Value}:∀{n:Nat},v∈K1 n z→v∈z:=by
 intro n;induction n with
 |zero=>intro h;simp[K1]at h
 |succ n ih=>
  intro h;simp[K1]at h;rcases h with h|h
  .exact h
  exact ih h
theorem tu(h:closed z=true)(ρ:Ren):∀v∈zr z,conc ρ v=v:=by
 have e:=yK ρ z;rw[yL h]at e;intro v a;have:(zr z).map (conc ρ)=(zr z).map id:=by rw[←e];simp
 exact Jw.1 this v a
theorem oZ(a:Array α)(o:α)(f:α→α):(a.push o).modify a.size f=a.push (f o):=by
 apply Array.ext_getElem?;intro i;rw[II,Ie,Ie];by_cases h:a.size=i
 .simp[h]
 rw[CT h,CT (fun e=>h e.symm),CT (fun e=>h e.symm)]
section
variable {X:Rel}{ρ:Ren}{h h':Hp}{w:World}
theorem qW(m:Mk)(n:Nat):m.name n%3≠0∧3*n≤m.name n∧m.name n<3*(n+1)∧gro (m.name n)=m.g:=by
 unfold Mk.name;split<;>rename_i hg<;>rw[hg]<;>refine⟨Z,Z,Z,?_⟩
 .exact C2
 exact Cr
theorem nD(C:Sim X ρ h w)(B:K9 (3*n) h)(m:Mk)(G:m.g=false)(hh:∀ρ',Lc (3*n) ρ ρ'→w'.heap=w.heap.push (.cells (m.c.map (conc ρ')).toArray m.e (0,0)))
  (a:w'.os=w.os∧w'.tape=w.tape∧w'.output=w.output)(A:∀v∈m.c,Nb (3*n) v)(i:∀c,h'.at c=if c=m.name n then some (.row m.c m.e)else h.at c):
  ∃ρ',conc ρ' (m.val n)=(match m.s with|none=>Dn (some ⟨w.heap.size,0,none⟩)|some (l,c)=>Y (some ⟨w.heap.size,0,none⟩) l c)∧Post X ρ n h w [] ρ' (m.val n) h' (n+1) w':=by
 obtain⟨a,u,f⟩:=a;obtain⟨b,p,q,F⟩:=qW m n;have j:gro (m.name n)=false→(0:Nat)=0:=fun _=>rfl;have d:=ρ.upd_agr (m.name n) w.heap.size 0 j b p;refine⟨ρ.upd (m.name n) w.heap.size 0 j b,?_,ny C B j b p q rfl (hh _ d) a u f i ⟨[],(0,0),cA,cA,fun _=>rfl,fun H D z _=>by simp[Ren.upd]⟩ A ?_⟩
 .unfold Mk.val;split<;>rename_i hms<;>simp[Ren.addr,Ren.upd,hms]
 intro I J y;have:=y (m.name n) q;unfold Mk.val;split<;>simp[Ren.addr,this.1,this.2]
theorem OI(I:Sim X ρ h w)(H:K9 (3*n) h)(m:Mk)(B:m.g=true){x:Nat}{junk:List Value}{fz:Nat×Nat}(hh:∀ρ',Lc (3*n) ρ ρ'→w'.heap=w.heap.push (.cells (m.c.map (conc ρ')++junk).toArray m.e fz))
  (C:w'.os=w.os)(D:w'.tape=w.tape)(j:w'.output=w.output)(G:∀v∈m.c,Nb (3*n) v)(A:∀off,off<O m.c+O junk→¬(fz.1≤off∧off<fz.2))
  (J:∀b d z,X.E.inf m.e=some (b,d,z)→O junk=x*b)(p:∀c,h'.at c=if c=m.name n then some (.row m.c m.e)else h.at c):
  ∃ρ',conc ρ' (m.val n)=(match m.s with|none=>Dn (some ⟨w.heap.size,0,none⟩)|some (l,c)=>Y (some ⟨w.heap.size,0,none⟩) l (c+x))∧Post X ρ n h w [] ρ' (m.val n) h' (n+1) w':=by
 obtain⟨f,q,u,y⟩:=qW m n;have a:gro (m.name n)=false→x=0:=fun h=>by rw[y,B]at h;cases h
 have i:=ρ.upd_agr (m.name n) w.heap.size x a f q;refine⟨ρ.upd (m.name n) w.heap.size x a f,?_,ny I H a f q u rfl (hh _ i) C D j p ⟨junk,fz,rfl,A,(fun h=>oU h (by rw[y,B];simp)),fun b d z K=>by simp[Ren.upd];exact J b d z K⟩ G ?_⟩
 .unfold Mk.val;split<;>rename_i hms<;>simp[Ren.addr,Ren.upd,hms]
 intro L M F;have:=F (m.name n) u;unfold Mk.val;split<;>simp[Ren.addr,this.1,this.2]
def RW(w:World)(bs:ByteArray)(e:TypeId):Nat:=aj8 (.appendCap bs.size 0 e) (w.tape w.drawn (.appendCap bs.size 0 e))
theorem RX(ρ:Ren)(g:Operand→Value)(l:Array (Nat×Operand)):IN (fun x=>match x with|(i,x)=>(i,conc ρ (g x))) l=((LO g l).map fun p=>(p.1,conc ρ p.2)).toArray:=by
 obtain⟨l⟩:=l;simp[LO]
theorem fi{g:Nat→Option (Nat×Nat)}:∀{a:List (Nat×Value)} {c r:List Value},km c g a=some r→∀v∈r,v∈c∨∃p∈a,v∈zr p.2:=by
 intro a;induction a with
 |nil=>intro c r h v e;simp[km]at h;subst h;exact .inl e
 |cons p a ih=>
  intro c r h v e;obtain⟨i,u⟩:=p;unfold km at h;split at h
  .cases h
  split at h
  .cases h
  rcases ih h v e with b|⟨q,f,b⟩
  .rcases kH b with d|d
   .exact .inl d
   exact .inr ⟨(i,u),cA,d⟩
  exact .inr ⟨q,by simp[f],b⟩
theorem Nb.cells(h:Nb m v):∀u∈zr v,Nb m u:=by
 intro u b ρ c a;have e:=congrArg zr (h ρ c a);rw[yK,yK]at e;exact Jw.1 e u b
theorem OJ(hE:EnvOk X.E X.P)(hs:Sim X ρ h w)(hn:K9 (3*n) h){g:Operand→Value}(hgn:∀x,Nb (3*n) (g x)){m:Mk}(hm:KX X.E o.op g=some m)
  (hset:∀c,h'.at c=if c=m.name n then some (.row m.c m.e)else h.at c):
  ∃ρ' w',(execOp (fun x=>conc ρ (g x)) o).run X.P w=.ok (.value (conc ρ' (m.val n))) w'∧Post X ρ n h w [] ρ' (m.val n) h' (n+1) w':=by
 unfold KX at hm;unfold execOp;split at hm<;>rename_i ho<;>simp only[ho]
 .split at hm
  .rename_i e _ _ _ z hz;simp at hm;subst hm;have hcl:=(hE.inf _ _ _ _ hz).2;obtain⟨ρ',hv,hp⟩:=nD (w':=w.alloc (.cells z.cells e)) hs hn ⟨zr z,e,false,none⟩ rfl (fun ρ' _=>by
    rw[←yK,yL hcl,xz];rfl) R3 (fun v hv=>Nb.cells (Nb.closed hcl) v hv) hset
   refine⟨ρ',_,?_,hp⟩;rw[hv];simp[Instr.alloc,qP hE hz,newVar,newRow]
  cases hm
 .rename_i e x;simp at hm;subst hm;obtain⟨ρ',hv,hp⟩:=nD (w':=w.alloc (.cells (conc ρ (g x)).cells e)) hs hn ⟨zr (g x),e,false,none⟩ rfl (fun ρ' ha=>by
   rw[Nb.map (fun v hv=>Nb.cells (hgn x) v hv) ha,←yK,xz];rfl) R3 (fun v hv=>Nb.cells (hgn x) v hv) hset
  refine⟨ρ',_,?_,hp⟩;rw[hv];simp[Instr.box,newVar,newRow]
 .rename_i t len l;unfold qD at hm;split at hm
  .rename_i e hu;have hF:=hE.slice hu;split at hm
   .rename_i sz _ z hz;split at hm
    .rename_i hb;simp at hb;split at hm
     .rename_i cs hcs;simp at hm;subst hm;have hcl:=(hE.inf _ _ _ _ hz).2;have hfr:=iw ρ _ (fun j=>some (j*sz,sz)) (fun _ _ h=>h) _ _ _ hcs;have hzc:(K1 len (zr z)).map (conc ρ)=K1 len (zr z):=by
       conv=>rhs;rw[←HS (K1 len (zr z))]
       exact EQ fun v hv=>tu hcl ρ v (pr hv)
      rw[hzc]at hfr;have hnb:∀v∈cs,Nb (3*n) v:=fun v hv=>by
       rcases fi hcs v hv with h1|⟨p,hp,h1⟩
       .exact Nb.cells (Nb.closed hcl) v (pr h1)
       simp[LO]at hp;obtain⟨a,b,_,rfl⟩:=hp;exact Nb.cells (hgn b) v h1
      obtain⟨ρ',hv,hp⟩:=nD (w':=w.alloc (.cells (cs.map (conc ρ)).toArray e)) hs hn ⟨cs,e,false,some (len,len)⟩ rfl (fun ρ' ha=>by rw[Nb.map hnb ha];rfl) R3 hnb hset;refine⟨ρ',_,?_,hp⟩;rw[hv];have hl2:¬len*sz>2^24:=Z;have hzero:((ad5 (len*sz)).map fun i=>((if len*sz=0 then #[]else z.cells):Array Value)[i%((if len*sz=0 then #[]else z.cells):Array Value).size]!)=(K1 len (zr z)).toArray:=by
       by_cases h0:len*sz=0
       .simp only[h0,if_true];have:O (K1 len (zr z))=0:=by rw[RU,hb.2,h0]
        rw[List.eq_nil_of_length_eq_zero this];simp
       simp only[h0,if_false];have:=OH (zr z) sz hb.2 len;rw[xz]at this⊢;simpa using this
      rw[RX];unfold Instr.buildSlice;simp only[EW,run_underlying hF,Ey,yk hE hz];rw[CT hl2];simp only[EW,GW,Ey,Sem.run_ite,qP hE hz];by_cases h0:len*sz=0
      .simp only[h0,if_true,Ey]at hzero⊢;exact CE
      simp only[h0,if_false,Ey]at hzero⊢;exact CE
     cases hm
    cases hm
   cases hm
  cases hm
 .rename_i t l c;unfold rM at hm;split at hm
  .rename_i e k1 len k2 cap hu hl hc;have hF:=hE.slice hu;split at hm
   .rename_i sz bt z hz;split at hm
    .rename_i hb;simp at hb;simp at hm;subst hm;have hcl:=(hE.inf _ _ _ _ hz).2;obtain⟨⟨i,hi1,hi2,hi3,hi4⟩,_⟩:=hE.inf _ _ _ _ hz;have hnb:∀v∈K1 cap (zr z),Nb (3*n) v:=fun v hv=>Nb.cells (Nb.closed hcl) v (pr hv);have hzc:∀ρ':Ren,(K1 cap (zr z)).map (conc ρ')=K1 cap (zr z):=fun ρ'=>by
      conv=>rhs;rw[←HS (K1 cap (zr z))]
      exact EQ fun v hv=>tu hcl ρ' v (pr hv)
     obtain⟨ρ',hv,hp⟩:=nD (w':=w.alloc (.cells (K1 cap (zr z)).toArray e)) hs hn ⟨K1 cap (zr z),e,false,some (len,cap)⟩ rfl (fun ρ' ha=>by rw[hzc];rfl) R3 hnb hset;refine⟨ρ',_,?_,hp⟩;rw[hv];have hr:=run_make (P:=X.P) w t e i z hF hi1 hi4 k1 k2 (len:Int) (cap:Int) Z Z (by
      rw[hi3];have:((bt*cap:Nat):Int)≤281474976710656:=by
       have:=hb.2.1;rw[Nat.mul_comm];omega
      rwa [Int.natCast_mul]at this) Z
     have hzero:madeCells z.cells (cap*sz)=(K1 cap (zr z)).toArray:=by
      have:=OH (zr z) sz hb.2.2.2 cap;rw[xz]at this⊢;simpa [madeCells]using this
     simp only[Int.toNat_natCast,hi2,hzero]at hr;simp only[hl,hc,iG,EW];have e1:(Int.ofNat len)=(len:Int):=rfl;have e2:(Int.ofNat cap)=(cap:Int):=rfl;rw[e1,e2,hr];simp
    cases hm
   cases hm
  cases hm
 .rename_i t d x;unfold uV at hm;split at hm
  .rename_i bs _ e hx ht hd;obtain⟨D,hD⟩:=hE.some_ ht;have hF:=hE.slice hd;split at hm
   .rename_i he hi;have hu:=hE.int he;simp at hm;subst hm;let cp:=RW w bs e
    have hcp:bs.size≤cp:=by
     show bs.size≤bs.size+_;omega
    let junk:List Value:=Dp (cp-bs.size) (U .u8 0)
    let cs:List Value:=bs.data.toList.map fun b=>U .u8 b.toNat
    have hlen:O cs=bs.size:=by simp[cs]
    have hconc:∀ρ':Ren,cs.map (conc ρ')=cs:=fun ρ'=>by simp[cs]
    let w':World:={w with heap:=w.heap.push (.cells (cs++junk).toArray e (cp,cp+1)),drawn:=w.drawn+1}
    obtain⟨ρ',hv,hp⟩:=OI (w':=w') hs hn ⟨cs,e,true,some (bs.size,bs.size)⟩ rfl (x:=cp-bs.size) (junk:=junk) (fz:=(cp,cp+1)) (fun ρ' ha=>by
      show w.heap.push _=_;rw[hconc]) rfl rfl rfl (fun v hv=>by
      simp[cs]at hv;obtain⟨b,_,rfl⟩:=hv;exact Nb.int) (by
      intro off hoff;simp[hlen,junk]at hoff;simp;omega) (by
      intro sz bt z hz;rw[hi]at hz;injection hz with hz
      injection hz with hz
      simp[junk,←hz]) hset
    refine⟨ρ',w',?_,hp⟩;rw[hv];simp only[hx,uy];have hconv:(convert t d (Dl bs)).run X.P w=(Kv e bs).run X.P w:=by
     simp[convert,run_underlying hD,run_underlying hF,run_underlying hu]
    simp only[EW,hconv];have hcut:aj8 (.appendCap bs.size 0 e) (w.tape w.drawn (.appendCap bs.size 0 e))=cp:=rfl;simp only[Kv,EW,run_choose,ae7,FE,if_false,Ey,hcut,newRow,run_newObj,GW,markStringish,run_shape];have hsz:(IN (fun b:UInt8=>U .u8 (b.toNat:Int)) bs.data++Ha (cp-bs.size) (U .u8 0))=(cs++junk).toArray:=by
     apply G2;simp[cs,junk]
    rw[hsz];have hshape:({w with heap:=w.heap.push (.cells (cs++junk).toArray e),drawn:=w.drawn+1}:World).shape? w.heap.size=some (e,cp):=by
     simp[World.shape?,hlen,junk];omega
    rw[hshape];simp only[Ey,run_freeze,GW];have hfr:({w with heap:=w.heap.push (.cells (cs++junk).toArray e),drawn:=w.drawn+1}:World).freeze {block:=w.heap.size,off:=cp} 1=w':=by
     simp only[World.freeze,w'];rw[CT Z];congr 1;rw[oZ];simp
    rw[hfr];have:bs.size+(cp-bs.size)=cp:=Z;rw[this]
   cases hm
  cases hm
 cases hm
end
section
variable {new:List Value}{ρ':Ren}
section
variable {X:Rel}{ρ:Ren}{h h':Hp}{w:World}
theorem gQ{P:Program}{x:Value}(d:lenOf? x=some m):(IX (conc ρ x)).run P w=.ok m w:=by
 unfold lenOf? at d;split at d
 .rename_i a l c;simp at d;subst d;cases a<;>simp[IX]
 .simp at d;subst d;simp[IX]
 cases d
theorem wM(l:Sim X ρ h w)(j:K9 m h){x:Value}(c:vv h size k x=some cs):
  (FQ size k (conc ρ x)).run X.P w=.ok (cs.map (conc ρ)).toArray w∧(∀v∈cs,Nb m v):=by
 unfold vv at c;split at c
 .rename_i a _ _;split at c
  .rename_i h0;simp at c;subst c;refine⟨?_,fun _ h=>by cases h⟩;simp[FQ,h0,loadCells,loadCellsFrom]
  obtain⟨g,d⟩:=qq l c;refine⟨?_,jX j c⟩;obtain⟨_,_,_,_,i,_,_⟩:=wL c;rw[yb,ρ.adrS_eq (.inl i)];simp only[FQ];exact qQ X.P w (ρ.addr a) (cs.map (conc ρ)) (k*size) BS d
 .simp at c;subst c;exact⟨by simp[FQ],fun _ h=>by cases h⟩
 .rename_i s;simp at c;subst c;refine⟨?_,fun v f=>?_⟩
  .simp only[uy,FQ,GW];congr 1;apply G2;rw[Array.toList_map,ac0];have e:(conc ρ ∘ fun b:UInt8=>U Kw (b.toNat:Int))=fun b:UInt8=>U Kw (b.toNat:Int):=by funext b;simp
   simp[e]
  have f:=EB f;simp at f;obtain⟨b,_,rfl⟩:=f;exact Nb.int
 cases c
theorem Post.undel{g:Hp}(p:Post X ρ n g w W ρ' v h' n' w')(o:(h.at b).isSome)(i:b<3*n)(j:∀c,g.at c=if c=b then none else h.at c)(l:h'.at b=none):
  Post X ρ n h w (b::W) ρ' v h' n' w':=by
 refine⟨p.agr,p.le,p.sim,p.nb,p.val,fun c a=>?_,fun c a=>?_,fun k y f=>p.fr k y fun c a=>f c BR,p.size,p.os,p.tape,p.out,fun c a u=>?_,fun c a f=>?_⟩
 .rcases DR.1 a with rfl|a
  .exact i
  exact p.wlt c a
 .rcases DR.1 a with rfl|a
  .exact o
  have:=p.wmem c a;rw[j]at this;split at this
  .cases this
  exact this
 .rcases p.new c a u with g|⟨d,q,s⟩
  .exact .inl g
  exact .inr ⟨d,by simp[q],s⟩
 simp at f;rw[p.old c a f.2,j,CT f.1]
theorem OK(n:Nat):gro (3*n+1)=true:=by exact C2
theorem RY(P:Program)(J:Sim X ρ h w)(y:K9 (3*n) h){g f need:Nat}{c:List Value}(F:h.at b=some (.row c e))(N:X.E.inf e=some (size,bt,z))
  (ab:O c=f*size)(ae:g*size≤O c)(a9:O new=(need-g)*size)(ad:g≤need)(Z1:need≤f+ρ.x b)(a6:f<need)(i:ones new=true)(a0:∀v∈new,Nb (3*n) v)
  (M:∀d,h'.at d=if d=3*n+1 then some (.row (c.take (g*size)++new) e)else if d=b then none else h.at d):
  ∃ρ' w',(storeCells ⟨ρ.b b,g*size,none⟩ (new.map (conc ρ))).run P w=.ok () w'∧conc ρ' (Y (some ⟨3*n+1,0,none⟩) need need)=Y (some ⟨ρ.b b,0,none⟩) need (f+ρ.x b)∧
   Post X ρ n h w [b] ρ' (Y (some ⟨3*n+1,0,none⟩) need need) h' (n+1) w':=by
 obtain⟨o,ho,K,fz,rfl,T,hj,hx⟩:=J.blk _ _ F;have ac:=hx _ _ _ N;have a8:g*size+(need-g)*size=need*size:=by rw[←DE];congr 1;omega
 have a5:(f+ρ.x b)*size=f*size+ρ.x b*size:=DE _ _ _;have a7:need*size≤(f+ρ.x b)*size:=Nat.mul_le_mul_right _ Z1;obtain⟨w',hr,hw,D⟩:=qc P (off:=g*size) (new.map (conc ρ)) 0 (c.map (conc ρ)++K) w ho eN (by simpa using T)
  (fun v j=>by
   simp at j;obtain⟨u,hu,rfl⟩:=j;exact an (am i u hu))
 have Z3:=(y _ _ F).1;have C:gro (3*n+1)=false→f+ρ.x b-need=0:=fun h=>by rw[OK]at h;cases h
 have A:(3*n+1)%3≠0:=Z;have s:=ρ.upd_agr (3*n+1) (ρ.b b) (f+ρ.x b-need) C A (m:=3*n) Z;refine⟨ρ.upd (3*n+1) (ρ.b b) (f+ρ.x b-need) C A,w',hr,?_,?_⟩
 .simp[Ren.addr,Ren.upd];omega
 have I:∀v∈c.take (g*size)++new,Nb (3*n) v:=fun v j=>by
  rcases Ec.1 j with j|j
  .exact(y _ _ F).2 v (EB j)
  exact a0 v j
 have p:∀d,(h'.at d).isSome→d≠3*n+1→d≠b∧(h.at d).isSome:=fun d a B=>by
  rw[M,CT B]at a;split at a
  .cases a
  exact⟨nN,a⟩
 refine⟨s,Z,⟨fun d x a=>?_,fun d H Z4 V l=>?_⟩,fun d x a=>?_,?_,?_,?_,fun k hk L=>?_,by rw[D.size];exact Fu _,D.os,D.tape,D.out,fun d a N=>?_,fun d a L=>?_⟩
 .rw[M]at a;split at a
  .rename_i hdn;subst hdn;injection a with a
   subst a;refine⟨_,?_,(c.map (conc ρ)++K).drop (need*size),fz,rfl,?_,fun h=>?_,fun sz aa z' G=>?_⟩
   .have e1:(ρ.upd (3*n+1) (ρ.b b) (f+ρ.x b-need) C A).b (3*n+1)=ρ.b b:=by simp[Ren.upd]
    rw[e1,hw,Nb.map I s];congr 3;unfold zv;rw[Ej,EN,List.append_assoc];congr 1
    .rw[Fk eN,Hr]
    congr 1;congr 1;simp;omega
   .intro a4 Z0;apply T;simp at Z0;omega
   .rw[OK]at h;cases h
   rw[N]at G;injection G with G
   injection G with G
   subst G;simp[Ren.upd,Nat.sub_mul];omega
  rename_i hdn;split at a
  .cases a
  rename_i hdb;obtain⟨o',a1,a2⟩:=J.blk d x a;refine⟨o',?_,a2.agr (y d x a).2 (y d x a).1 s⟩;have:(ρ.upd (3*n+1) (ρ.b b) (f+ρ.x b-need) C A).b d=ρ.b d:=by simp[Ren.upd,hdn]
  rw[this,D.far _ (fun l=>hdb (J.inj d b (by rw[a];rfl) (by rw[F];rfl) l))];exact a1
 .have R:∀q,(h'.at q).isSome→q≠3*n+1→ρ.b q≠ρ.b b:=fun q S B e=>(p q S B).1 (J.inj q b (p q S B).2 (by rw[F];rfl) e);by_cases i:d=3*n+1
  .by_cases h2:H=3*n+1
   .rw[i,h2]
   simp[Ren.upd,i,h2]at l;exact oU l.symm (R H V h2)
  by_cases h2:H=3*n+1
  .simp[Ren.upd,i,h2]at l;exact oU l (R d Z4 i)
  simp[Ren.upd,i,h2]at l;exact J.inj d H (p d Z4 i).2 (p H V h2).2 l
 .rw[M]at a;split at a
  .rename_i hdn;subst hdn;injection a with a
   subst a;exact⟨Z,fun v j=>(I v j).mono Z⟩
  split at a
  .cases a
  exact⟨by have:=(y d x a).1;omega,(y d x a).2.mono Z⟩
 .intro ρ1 ρ2 ha;have:=ha (3*n+1) Z;simp[Ren.addr,this.1,this.2]
 .intro d a;simp at a;subst a;exact Z3
 .intro d a;simp at a;subst a;rw[F];rfl
 .rw[D.far];exact fun e=>L b cA e.symm
 .by_cases i:d=3*n+1
  .right;refine⟨b,cA,?_⟩;simp[Ren.upd,i]
  obtain⟨x,a3⟩:=Eg.1 (p d N i).2;have:=(y d x a3).1;omega
 simp at L;rw[M,CT Z,CT L]
theorem mQ(y:Sim X ρ h w)(s:K9 (3*n) h){need a drawn:Nat}(q:X.E.inf e=some (size,bt,z))(i:O (zr z)=size)(B:need≤a)
  (f:∀v∈cs,Nb (3*n) v)(p:∀d,h'.at d=if d=3*n+1 then some (.row cs e)else h.at d):
  ∃ρ',conc ρ' (Y (some ⟨3*n+1,0,none⟩) need need)=Y (some ⟨w.heap.size,0,none⟩) need a∧
   Post X ρ n h w [] ρ' (Y (some ⟨3*n+1,0,none⟩) need need) h' (n+1) {w with heap:=w.heap.push (.cells ((cs.map (conc ρ)).toArray++Hg z.cells (a-need)) e),drawn:=drawn}:=by
 have j:(Hg z.cells (a-need)).toList.length=(a-need)*size:=by
  rw[xz]at i;have:z.cells.size=size:=by simpa using i
  simp[Hg,this]
 obtain⟨ρ',g,u⟩:=OI (w':={w with heap:=w.heap.push (.cells ((cs.map (conc ρ)).toArray++Hg z.cells (a-need)) e),drawn:=drawn}) y s ⟨cs,e,true,some (need,need)⟩ rfl
  (x:=a-need) (junk:=(Hg z.cells (a-need)).toList) (fz:=(0,0)) (fun ρ' o=>by
   show w.heap.push _=_;rw[Nb.map f o];congr 2;apply G2;simp) rfl rfl rfl f (by intro C _;simp) (fun D A z' c=>by
    rw[q]at c;injection c with c
    injection c with c
    rw[j,c]) p
 refine⟨ρ',?_,u⟩;have l:need+(a-need)=a:=Z;simp only[Mk.val,Mk.name]at g;rw[g,l]
theorem pd{P:Program}{i:TypeInfo}{D:TypeDesc}(y:P.underlying sT=some (.slice e))(s:P.info? e=some i)(o:P.underlying xT=some D)(p:∀k,D≠.int k)
  {c:Option Addr}{d f:Nat}{x:Value}{new:Array Value}(u:(IX x).run P w=.ok m w)(q:(FQ i.size m x).run P w=.ok new w)(j:d+m≤f)
  (g:match c with|some a=>(storeCells (a.add (d*i.size)) new.toList).run P w=.ok () w'|none=>w'=w):
  (HI #[sT,xT] ty #[Y c d f,x]).run P w=.ok (Y c (d+m) f) w':=by
 have l:(match D with| .int _=>true|_=>false)=false:=by
  cases D<;>first|rfl|exact oU rfl (p _)
 cases c with
 |none=>
  simp at g;subst g;simp[HI,run_underlying y,run_underlying o,sizeOf,typeInfo,s,l,u,j,q]
 |some a=>
  simp at g;simp[HI,run_underlying y,run_underlying o,sizeOf,typeInfo,s,l,u,j,q,g]
theorem iM{P:Program}{i:TypeInfo}{D:TypeDesc}(C:P.underlying sT=some (.slice e))(A:P.info? e=some i)(F:i.zero=some z)(q:P.underlying xT=some D)(l:∀k,D≠.int k)
  {d:Option Addr}{a c:Nat}{x:Value}{f new:Array Value}(B:(IX x).run P w=.ok m w)(y:c<a+m)(H:(a+m)*i.bytes≤1099511627776)(G:1≤i.bytes)
  (o:(FQ i.size a (Y d a c)).run P w.drew=.ok f w.drew)(s:(FQ i.size m x).run P w.drew=.ok new w.drew):
  (HI #[sT,xT] ty #[Y d a c,x]).run P w=.ok (Y (some ⟨w.heap.size,0,none⟩) (a+m) (grownCap w (a+m) c e))
   {w with heap:=w.heap.push (.cells (f++new++Hg z.cells (grownCap w (a+m) c e-(a+m))) e),drawn:=w.drawn+1}:=by
 have p:(match D with| .int _=>true|_=>false)=false:=by
  cases D<;>first|rfl|exact oU rfl (l _)
 have hn:¬(a+m≤c):=Z;have u:=growslice_fits y (show(a+m)*i.bytes≤140737488355328 by omega);have g:¬(281474976710656<Builtin.nextslicecap (a+m) c*i.bytes):=Z;have j:¬i.bytes=0:=Z;simp[HI,run_underlying C,run_underlying q,sizeOf,typeInfo,zeroValue,A,F,p,B,hn,g,j,ae7,newRow,grownCap];rw[o];simp[s];rfl
theorem cK(hE:EnvOk X.E X.P)(F:Sim X ρ h w)(hn:K9 (3*n) h){s x:Value}(aj:Nb (3*n) s)(az:∃d,X.E.und xT=some d∧∀k,d≠.int k)
  (f:pR X.E h n sT s x=some (.val v h' n' W)):
  ∃ρ' w',(HI #[sT,xT] ty #[conc ρ s,conc ρ x]).run X.P w=.ok (conc ρ' v) w'∧Post X ρ n h w W ρ' v h' n' w':=by
 obtain⟨d,hd,ag⟩:=az;obtain⟨D,K,ae⟩:=hE.und _ _ hd;have b2:∀w:World,((do pure ((←underlying xT) matches .int _):Sem Bool)).run X.P w=.ok false w:=fun w=>by
  simp[run_underlying K];cases D<;>simp_all [TD.of];exact ag _ ae.symm
 unfold pR at f;split at f
 .rename_i e hu;have Z1:=hE.slice hu;split at f
  .rename_i size bytes z base sLen sCap m A hm;obtain⟨⟨i,u,Z3,ah,a5⟩,af⟩:=hE.inf _ _ _ _ A;split at f
   .rename_i new hnew;obtain⟨M,a6⟩:=wM F hn hnew;split at f
    .rename_i hb;simp at hb;obtain⟨an,⟨a2,b1⟩,ao⟩:=hb;have o:∀k,D≠.int k:=fun k hk=>ag k (by rw[←ae,hk];rfl);have y:=gQ (P:=X.P) (ρ:=ρ) (w:=w) hm;rw[←Z3]at M;split at f
     .rename_i g;have g:=D5 g;unfold rN at f;split at f
      .simp at f;obtain⟨rfl,rfl,rfl,rfl⟩:=f;refine⟨ρ,w,?_,Post.refl F hn ?_⟩
       .cases base with
        |none=>
         simp only[pc];exact pd Z1 u K o y M g rfl
        |some a=>
         rw[yb,yb,ρ.adrS_len a (G0 sLen m) g];exact pd Z1 u K o y M Z (by simp[storeCells])
       intro ρ1 ρ2 a1;have:=aj ρ1 ρ2 a1;cases base with
       |none=>simp
       |some a=>
        rw[yb,yb]at this⊢;rw[ρ1.adrS_len a (G0 sLen m) g,ρ2.adrS_len a (G0 sLen m) g];simpa using this
      .rename_i a hne;split at f
       .rename_i h1 a0;simp at f;obtain⟨rfl,rfl,rfl,rfl⟩:=f;obtain⟨w',C,B⟩:=pm X.P F hn a6 a0;have ap:(a.add (sLen*size)).block=a.block:=fL _ _;rw[ap]at B;have L:∀ρ:Ren,ρ.adrS a sLen sCap=ρ.addr a:=fun ρ=>by
         by_cases hc:sCap=0
         .obtain⟨_,_,_,ak,_⟩:=qg a0;have aw:sLen=0:=Z;rw[aw,Nat.zero_mul]at ak;exact ρ.adrS_eq (.inl (by simpa [FX]using ak))
         exact ρ.adrS_eq (.inr (.inr hc))
        refine⟨ρ,w',?_,B _ ?_⟩
        .rw[yb,yb,ρ.adrS_len a (G0 sLen m) g,L];refine pd Z1 u K o y M Z ?_;show Sem.run _ (storeCells ((ρ.addr a).add (sLen*i.size)) _) w=_;rw[Z3,←OG];simpa using C
        intro ρ1 ρ2 a1;have:=aj ρ1 ρ2 a1;rw[yb,yb,L,L]at this;rw[yb,yb,ρ1.adrS_len a (G0 sLen m) g,ρ2.adrS_len a (G0 sLen m) g,L,L];simpa using this
       cases f
      cases f
     rename_i hnle;have a4:sCap<sLen+m:=by
      apply Gm;intro g;rw[Dv g]at hnle;cases hnle
     split at f
     .rename_i old hold;rw[wT]at f;have ai:Sim X ρ h w.drew:=⟨F.blk,F.inj⟩;obtain⟨G,av⟩:=wM ai hn hold;obtain⟨I,_⟩:=wM ai hn hnew;rw[←Z3]at G I;have a3:∀v∈old++new,Nb (3*n) v:=fun v hv=>by
       rcases Ec.1 hv with hv|hv
       .exact av v hv
       exact a6 v hv
      have p:(old.map (conc ρ)).toArray++(new.map (conc ρ)).toArray=((old++new).map (conc ρ)).toArray:=by simp
      have R:(sLen+m)*i.bytes≤1099511627776:=by rw[ah];exact an
      have S:1≤i.bytes:=by rw[ah];exact ao
      unfold Mp at f;split at f
      .obtain⟨t',N,T⟩:=Tr.set_some none _ _ _ _ _ f;simp at N;obtain⟨rfl,rfl,rfl,rfl⟩:=N;have C:=iM (ty:=ty) Z1 u a5 K o y a4 R S (by simpa using G) I;rw[p]at C;obtain⟨ρ',hv,B⟩:=mQ (drawn:=w.drawn+1) F hn A a2 (grownCap_ge w (sLen+m) sCap e) a3 T;refine⟨ρ',_,?_,B⟩;rw[hv,pc,C]
      rename_i a;split at f
      .rename_i hgr;split at f
       .rename_i hchk;simp at hchk;obtain⟨a7,Z0,H,ad,af⟩:=hchk;obtain⟨t1,ay,q⟩:=Tr.set_some none _ _ _ _ _ f;obtain⟨t',N,T⟩:=Tr.set_some none _ _ _ _ _ ay;simp at N;obtain⟨rfl,rfl,rfl,rfl⟩:=N;have aa:ρ.adrS a sLen sCap=⟨ρ.b a.block,0,none⟩:=by rw[ρ.adrS_eq (.inl Z0)];unfold Ren.addr;rw[a7,Z0]
        obtain⟨c,J,aq⟩:∃c,h.at a.block=some (.row c e)∧O c=sCap*size:=by
         unfold M7 at H;split at H
         .rename_i c e' hc;simp at H;exact⟨c,by rw[hc,H.2],H.1⟩
         cases H
        have j:old=c.take (sLen*size)∧sLen*size≤O c:=by
         simp only[vv]at hold;split at hold
         .rename_i h0;simp at hold;subst hold;rw[h0];simp
         obtain⟨c',x',Z4,a9,b0,ab,rfl⟩:=wL hold;rw[J]at Z4;injection Z4 with Z4
         subst Z4;injection a9 with a9
         subst a9;rw[a7]at ab⊢;exact⟨cA,Z⟩
        have ac:O new=m*size:=by
         have h1:O old=sLen*size:=by rw[j.1];have:=j.2;simp;omega
         rw[DE]at af;omega
        have a8:ones new=true:=by
         have:∀(l k:List Value),ones (l++k)=true→ones k=true:=by
          intro l k;induction l with
          |nil=>exact id
          |cons v l ih=>intro hh;cases v<;>simp[ones]at hh<;>exact ih hh
         exact this _ _ ad
        have ar:∀d,Hp.at t' d=if d=3*n+1 then some (.row (c.take (sLen*size)++new) e)else if d=a.block then none else h.at d:=fun d=>by
         show Tr.get none t' d=_;rw[T,q,j.1]
        by_cases hfit:sLen+m≤sCap+ρ.x a.block
        .obtain⟨ρ',w',a0,hv,B⟩:=RY X.P F hn (need:=sLen+m) J A aq j.2 (by rw[Nat.add_sub_cancel_left];exact ac) Z hfit a4 a8 a6 ar;refine⟨ρ',w',?_,B⟩;rw[hv,yb,aa];refine pd Z1 u K o y M hfit ?_;show Sem.run _ (storeCells ((⟨ρ.b a.block,0,none⟩:Addr).add (sLen*i.size)) _) w=_;rw[Z3,nK _ rfl];simpa using a0
        simp only[yb]at G;have C:=iM (ty:=ty) Z1 u a5 K o y (show sCap+ρ.x a.block<sLen+m by omega) R S (by
         have:(FQ i.size sLen (Y (some (ρ.adrS a sLen sCap)) sLen (sCap+ρ.x a.block))).run X.P w.drew=.ok (old.map (conc ρ)).toArray w.drew:=G;exact this) I
        rw[p]at C;have am:=(hn _ _ J).1;have ax:Sim X ρ t1 w:=⟨fun c x hc=>F.blk c x (by
          rw[show Hp.at t1 c=_ from q c]at hc;split at hc
          .cases hc
          .exact hc),fun c c' A V he=>F.inj c c' (by
          rw[show Hp.at t1 c=_ from q c]at A;split at A
          .cases A
          .exact A) (by
          rw[show Hp.at t1 c'=_ from q c']at V;split at V
          .cases V
          .exact V) he⟩
        have au:K9 (3*n) t1:=fun c x hc=>hn c x (by
          rw[show Hp.at t1 c=_ from q c]at hc;split at hc
          .cases hc
          .exact hc)
        obtain⟨ρ',hv,B⟩:=mQ (drawn:=w.drawn+1) ax au A a2 (grownCap_ge w (sLen+m) (sCap+ρ.x a.block) e) a3 T;refine⟨ρ',_,?_,Post.undel B (by rw[J];rfl) am q (by
         show Tr.get none t' a.block=none;rw[T,CT Z,q,De rfl])⟩
        rw[hv,yb,C]
       cases f
      rename_i hgr;have al:=ρ.ex _ hgr;obtain⟨t',N,T⟩:=Tr.set_some none _ _ _ _ _ f;simp at N;obtain⟨rfl,rfl,rfl,rfl⟩:=N;simp only[yb,al,Ej]at G;have C:=iM (ty:=ty) Z1 u a5 K o y a4 R S G I;rw[p]at C;obtain⟨ρ',hv,B⟩:=mQ (drawn:=w.drawn+1) F hn A a2 (grownCap_ge w (sLen+m) sCap e) a3 T;refine⟨ρ',_,?_,B⟩;rw[hv,yb,al,Ej,C]
     cases f
    cases f
   cases f
  cases f
 cases f
end
end
structure EnvOk2 (E:Env)(P:Program):Prop extends EnvOk E P where
 ent:∀f fn,E.fn f=some fn→∀args w,(callFunc f args).run P w=.ok (.enter f args) w
 get:∀f fn,E.fn f=some fn→P.funcs[f]?=some fn
 ext:∀f args v,E.ext f args=some v→(∀x∈args,closed x=true)∧closed v=true∧∀w,(callFunc f args.toArray).run P w=.ok (.value v) w
 mixed:P.follows .mixedOrders=true
def Nx(v:Value)(x:Next):Prop:=x=.value v∨(x=.skip∧v=undef)
section
variable {X:Rel}{ρ:Ren}{h h':Hp}{w:World}
theorem RZ(j:EnvOk X.E X.P)(f:Sim X ρ h w)(hn:K9 (3*n) h){p:TypeId}{d x:Value}(hc:Mq X.E h n p d x=some (.val v h' n' W)):
  ∃g,(Ij #[p,xT] ty #[conc ρ d,conc ρ x]).run X.P w=.ok (conc ρ v) g∧Post X ρ n h w W ρ v h' n' g:=by
 unfold Mq at hc;split at hc
 .rename_i e hu;have q:=j.slice hu;split at hc
  .rename_i size _ _ base dLen c m hi hm;have i:=gQ (P:=X.P) (ρ:=ρ) (w:=w) hm;split at hc
   .rename_i b0 _ _ hcs;obtain⟨b,_⟩:=wM f hn hcs;simp at hc;obtain⟨rfl,rfl,rfl,rfl⟩:=hc;refine⟨w,?_,Post.refl f hn Nb.int⟩;simp at b;cases b0<;>simp[Ij,run_underlying q,i,yk j hi,b,storeCells,goInt]
   .rename_i cs a hne hcs;split at hc
    .rename_i h1 hst;simp at hc;obtain⟨rfl,rfl,rfl,rfl⟩:=hc;obtain⟨b,u⟩:=wM f hn hcs;obtain⟨g,B,A⟩:=pm X.P f hn u hst;refine⟨g,?_,A _ Nb.int⟩;obtain⟨_,_,_,y,_⟩:=qg hst;have s:=ρ.adrS_eq (a:=a) (l:=dLen) (c:=c) (.inl y);simp[s,Ij,run_underlying q,i,yk j hi,b,B,goInt]
    cases hc
   cases hc
  cases hc
 cases hc
theorem R0:∀{a:List Value} {l:List UInt8},oP a=some l→∃b:List Int,a=b.map (U .u8)∧l=b.map fun m=>EV m.toNat:=by
 intro a;induction a with
 |nil=>intro l h;simp[oP]at h;subst h;exact⟨[],rfl,rfl⟩
 |cons v a ih=>
  intro l h;unfold oP at h;split at h
  .rename_i h0;cases h0
  .rename_i m r h0;injection h0 with h1 h2
   subst h1 h2;split at h
   .rename_i l' hl;simp at h;subst h;obtain⟨b,rfl,rfl⟩:=ih hl;exact⟨m::b,rfl,rfl⟩
   cases h
  cases h
theorem R1(f:EnvOk X.E X.P)(A:Sim X ρ h w)(y:K9 (3*n) h){d:TypeId}{x:Value}(b:MM X.E t d x h=some v):
  (convert t d (conc ρ x)).run X.P w=.ok (conc ρ v) w∧Nb (3*n) v:=by
 unfold MM at b;split at b
 .rename_i a len c e htu hdu;have i:=f.slice htu;have j:=f.string hdu;split at b
  .rename_i cs heu hcs;have p:=f.int heu;split at b
   .rename_i l hl;simp at b;subst b;refine⟨?_,Nb.string⟩;obtain⟨g,rfl,rfl⟩:=R0 hl;obtain⟨u,_⟩:=wM A y hcs;cases a with
    |none=>
     have s:g=[]:=by
      simp[vv]at hcs;exact hcs
     subst s;rw[pc,run_convert_bytes_string w t d e _ _ _ i p j];simp[Conv.bytesToString];rfl
    |some a=>
     rw[yb,run_convert_bytes_string w t d e _ _ _ i p j];have q:(loadCells (ρ.adrS a len c) len).run X.P w=.ok (g.map (U .u8)).toArray w:=by
      simp[FQ]at u;have e:(conc ρ ∘ U Kw)=U Kw:=by funext m;simp
      rw[u,e]
     rw[run_bytesToString w _ len _ g q,foldl_push_bytes];simp
   cases b
  cases b
 cases b
theorem OL(y:EnvOk2 X.E X.P)(B:Sim X ρ h w)(hn:K9 (3*n) h){g:Operand→Value}(F:∀x,Nb (3*n) (g x))(i:effE X.E o.op g h n=some (.val v h' n' W)):
  ∃C p nx,(execOp (fun x=>conc ρ (g x)) o).run X.P w=.ok nx p∧Nx (conc C v) nx∧Post X ρ n h w W C v h' n' p:=by
 unfold effE at i;unfold execOp;split at i<;>rename_i ho<;>simp only[ho]
 .rename_i t a x;unfold kx at i;split at i
  .rename_i ad sz _ _ ha hi;split at i
   .rename_i hlen;split at i
    .rename_i h1 hst;simp at i;obtain⟨rfl,rfl,rfl,rfl⟩:=i;obtain⟨p,q,u⟩:=pm X.P B hn (fun v hv=>Nb.cells (F x) v hv) hst;refine⟨ρ,p,.skip,?_,.inr ⟨rfl,cA⟩,u _ Nb.undef⟩;have N:(conc ρ (g x)).cells.size=sz:=by
      rw[pN];have:=Eb hlen;rw[xz]at this;simpa using this
     rw[←yK,xz]at q;simp[ha,Instr.storeAt,HT,storeVar,N,yk y.toEnvOk hi,q]
    cases i
   cases i
  cases i
 .rename_i c;obtain⟨J,j,G⟩:=c;obtain⟨j⟩:=j;obtain⟨G⟩:=G;unfold pQ at i;simp only at i;split at i
  .unfold appE at i;split at i
   .rename_i s x sT xT hsx;obtain⟨l,m,rfl,rfl,rfl⟩:∃l m,j=[l,m]∧g l=s∧g m=x:=by
     match j,hsx with
     |[a,b],h=>simp at h;exact⟨a,b,rfl,h.1,h.2⟩
    have L:∃d,X.E.und xT=some d∧∀k,d≠.int k:=by
     split at i
     .cases i
     .cases i
     rename_i h1 h2;cases hu:X.E.und xT with
     |none=>exact oU hu h2
     |some d=>exact⟨d,rfl,fun k M=>h1 k (by rw[hu,M])⟩
    split at i
    .cases i
    .cases i
    obtain⟨C,p,q,u⟩:=cK y.toEnvOk B hn (ty:=o.type) (F l) L i;refine⟨C,p,_,?_,.inl rfl,u⟩;simp[resolve,invoke,builtin,q]
   cases i
  .unfold cpyE at i;split at i
   .rename_i s x sT rest hsx;obtain⟨l,m,rfl,rfl,rfl⟩:∃l m,j=[l,m]∧g l=s∧g m=x:=by
     match j,hsx with
     |[a,b],h=>simp at h;exact⟨a,b,rfl,h.1,h.2⟩
    obtain⟨p,q,u⟩:=RZ (xT:=0) (ty:=o.type) y.toEnvOk B hn i;refine⟨ρ,p,_,?_,.inl rfl,u⟩;have e:(Ij ⟨sT::rest⟩ o.type #[conc ρ (g l),conc ρ (g m)]).run X.P w=(Ij #[sT,0] o.type #[conc ρ (g l),conc ρ (g m)]).run X.P w:=by
     unfold Ij;simp
    simp[resolve,invoke,builtin,e,q]
   cases i
  .rename_i f;unfold ML at i;split at i
   .rename_i gf first cap hf
    split at i
    .rename_i v' hv;simp at i;obtain⟨rfl,rfl,rfl,rfl⟩:=i;obtain⟨K,D,I⟩:=y.ext _ _ _ hv;refine⟨ρ,w,.value v',?_,.inl (by rw[yL D]),Post.refl B hn (Nb.closed D)⟩;have H:(first.toList++(j.map g++cap.toList)).map (conc ρ)=first.toList++(j.map g++cap.toList):=by
      conv=>rhs;rw[←HS (first.toList++(j.map g++cap.toList))]
      exact EQ fun x Z1=>yL (K x Z1)
     have A:first.map (conc ρ)++(j.map fun x=>conc ρ (g x)).toArray++cap.map (conc ρ)=(first.toList++(j.map g++cap.toList)).toArray:=by
      rw[←H];apply G2;simp
     simp only[hf,lJ,resolve,IP,Ren.fn,EW,GW,Ey,invoke,H3];rw[A];exact I w
    cases i
   .cases i
   cases i
  cases i
 cases i
end
section
variable {E:Env}
def gK(M:List Nat):List Deferred:=M.map fun k=>{target:=.collected k,args:=#[]}
def Lt(X:Rel)(nt n0:Nat)(ρ0:Ren)(h0:Hp)(w0:World)(s:St)(a:Act)(w:World):Prop:=
 ∃(ρ:Ren) (M:List Nat),TR ρ s.t nt a.tmps∧(∀i,Nb (3*s.n) (nth s.t i))∧Post X ρ0 n0 h0 w0 s.w ρ undef s.h s.n w∧
  a.defers=gK M∧M.Nodup∧∀k∈M,w.heap[k]?=some (.deferred (some []))∧w0.heap.size≤k∧∀b,(s.h.at b).isSome→ρ.b b≠k
def pM:Operand→Bool
 | .const v=>closed v
 |_=>true
def yu(o:Oper):Bool:=o.op.operands.all pM&&(match o.op with| .defer _=>false| .select _ _=>false|_=>true)
section
variable {X:Rel}{ρ:Ren}{h h':Hp}{w:World}
theorem cj{t:Tr Value}{a:Act}(c:TR ρ t nt a.tmps)(b:pM x=true):a.eval x=conc ρ (ev t x):=by
 cases x with
 |tmp i=>simp only[Jm,ev];exact c.getD i
 |const v=>simp only[Jm,ev];rw[show closed v=true from b];exact(yL b).symm
 |global g=>simp[Jm,ev,Ren.addr,ρ.gl]
 |func f=>simp[Jm,ev,Ren.fn]
theorem Nb.global(g:Nat):Nb m (Dn (some ⟨3*g,0,none⟩)):=fun ρ a _=>by simp[Ren.addr,ρ.gl,a.gl]
theorem cd{t:Tr Value}(a:∀i,Nb m (nth t i))(x:Operand):Nb m (ev t x):=by
 cases x with
 |tmp i=>exact a i
 |const v=>
  simp only[ev];split
  .exact Nb.closed nN
  exact Nb.undef
 |global g=>exact Nb.global g
 |func f=>intro ρ b _;simp[ev,Ren.fn]
theorem mU{t:Tr Value}{a:Act}(j:TR ρ t nt a.tmps)(c:yu o=true):execOp a.eval o=execOp (fun x=>conc ρ (ev t x)) o:=by
 unfold yu at c;simp at c;refine execOp_congr o (fun cs b g=>?_) (fun x p=>cj j ?_)
 .rw[g]at c;simp at c
 obtain⟨i,d,rfl⟩:=J6.1 p;exact c.1 i d
theorem Post.wv{ρ0:Ren}{h0:Hp}{v':Value}(p:Post X ρ0 n0 h0 w0 W ρ v h' n' w')(hv:Nb (3*n') v'):Post X ρ0 n0 h0 w0 W ρ v' h' n' w':=
 ⟨p.agr,p.le,p.sim,p.nb,hv,p.wlt,p.wmem,p.fr,p.size,p.os,p.tape,p.out,p.new,p.old⟩
theorem TR.put{t c:Tr Value}(b:TR ρ t nt tm)(g:i<nt)(d:∀j,Tr.get undef c j=if j=i then v else Tr.get undef t j):TR ρ c nt (tm.setIfInBounds i (conc ρ v)):=by
 refine⟨by simp[b.size],fun j a=>?_,fun j a=>?_⟩
 .show _=some (conc ρ (Tr.get undef c j));rw[d];by_cases hji:j=i
  .subst hji;simp[b.size,a]
  rw[CT hji,Hw (Ne.symm hji)];exact b.at_ j a
 show Tr.get undef c j=undef;rw[d,CT Z];exact b.past j a
theorem rO{C:Ctx}{ρ0:Ren}{h0:Hp}{s:St}{d:Option Tmp}{k:St→Option β}{r:β}(q:done C s d v h' n' W k=some r):
  ∃s',k s'=some r∧∀(a:Act) (w:World) (ρ:Ren) (M:List Nat),TR ρ s.t C.nt a.tmps→(∀i,Nb (3*s.n) (nth s.t i))→Post X ρ0 C.n0 h0 w0 s.w ρ undef s.h s.n w→a.defers=gK M→M.Nodup→
   (∀k∈M,w.heap[k]?=some (.deferred (some []))∧w0.heap.size≤k∧∀b,(s.h.at b).isSome→ρ.b b≠k)→
   ∀(p:Ren) (w':World),Post X ρ s.n s.h w W p v h' n' w'→Lt X C.nt C.n0 ρ0 h0 w0 s' (a.put d (conc p v)) w':=by
 unfold done at q;rw[pa]at q;have P:∃y,(∀(p:Ren) (tm:Array Value),TR p s.t C.nt tm→TR p y C.nt (match d with|some i=>tm.setIfInBounds i (conc p v)|none=>tm))∧(∀m,(∀i,Nb m (nth s.t i))→Nb m v→∀i,Nb m (nth y i))∧sW n' (fun n=>k {t:=y,h:=h',n:=n,w:=addW C.n0 W s.w})=some r:=by
  unfold putK at q;cases d with
  |some i=>
   simp only at q;split at q
   .cases q
   rename_i u;have Z3:i<C.nt:=by
    apply Gm;intro J;rw[Dv J]at u;cases u
   obtain⟨y,Z1,I⟩:=Tr.set_some undef _ _ _ _ _ q;refine⟨y,fun p tm B=>B.put Z3 I,fun m hm hv j=>?_,Z1⟩;show Nb m (Tr.get undef y j);rw[I];split
   .exact hv
   exact hm j
  |none=>exact⟨s.t,fun _ _ h=>h,fun _ h _=>h,q⟩
 obtain⟨y,S,T,F⟩:=P;rw[wb]at F;refine⟨_,F,fun a w ρ M B L hp H N Z4 p w' g=>⟨p,M,?_,?_,(hp.trans g).wv Nb.undef,?_,N,fun k Z0=>?_⟩⟩
 .have:=S p a.tmps (B.agr L g.agr);cases d<;>exact this
 .exact T (3*n') (fun i=>(L i).mono (by have:=g.le;omega)) g.val
 .cases d<;>exact H
 obtain⟨R,m2,D⟩:=Z4 k Z0;have K:k<w.heap.size:=(Ei.1 R).1;refine⟨?_,m2,fun b u A=>?_⟩
 .rw[g.fr k K fun b u=>D b (g.wmem b u)];exact R
 by_cases hb3:b<3*s.n
 .have hs:(s.h.at b).isSome:=by
   by_cases hbW:b∈W
   .exact g.wmem b hbW
   rw[←g.old b hb3 hbW];exact u
  rw[(g.agr b hb3).1]at A;exact D b hs A
 rcases g.new b Z u with G|⟨c,V,G⟩
 .omega
 rw[G]at A;exact D c (g.wmem c V) A
def Wd(ro:Option Nat):Fence:={Gu with round:=ro}
structure CalOk (X:Rel)(C:Cal):Prop where
 call:∀f args h n v h' n' W,C.call f args h n=some (v,h',n',W)→∀(k:Nat) (ρ:Ren) (w:World),Sim X ρ h w→K9 (3*n) h→(∀x∈args,Nb (3*n) x)→
  (callFunc f (args.map (conc ρ)).toArray).run X.P w=.ok (.enter f (args.map (conc ρ)).toArray) w∧
  CallsIn Gu k X.P f (args.map (conc ρ)).toArray w fun e w'=>∃ρ',e=.returned (conc ρ' v)∧Post X ρ n h w W ρ' v h' n' w'
 yl:∀l args h n v h' n' W,C.yl l args h n=some (v,h',n',W)→∀(k:Nat) (ρ:Ren) (w:World),Sim X ρ h w→K9 (3*n) h→(∀x∈args,Nb (3*n) x)→
  ∃f tm assign body,(ad7 (ρ.b l) (args.map (conc ρ)).toArray).run X.P w=.ok (.round (ρ.b l) f tm assign body) w∧
   RoundIn Gu k X.P (ρ.b l) f tm assign body w fun e w'=>∃ρ',e=.returned (conc ρ' v)∧Post X ρ n h w W ρ' v h' n' w'
theorem tD(b:yu o=true){a:Act}{u:Option Nat}{s:Nat}{K:Act→World→Prop}{Q:Exit→Act→World→Prop}{g:Next}(q:(execOp a.eval o).run X.P w=.ok g w')(d:Nx v g)(j:K (a.put o.dst v) w'):
  o.wpIn (Wd u) s X.P a w K Q:=by
 refine⟨fun _ _=>trivial,?_⟩;rw[IY _ _ _ (fun c p=>by unfold yu at b;rw[p]at b;simp at b),q];rcases d with rfl|⟨rfl,rfl⟩<;>exact j
theorem Nb.first{f:Fn}{a b:Array Value}(h:Nb m (.func f a b)):(∀x∈a.toList,Nb m x)∧∀x∈b.toList,Nb m x:=by
 constructor
 .intro x d ρ g c;have:=h ρ g c;simp at this;exact this.2.1 x Aw
 intro x d ρ g c;have:=h ρ g c;simp at this;exact this.2.2 x Aw
def NC:R→Prop
 | .val _ _ _ _=>True
 |_=>False
theorem Sa{h:Hp}{n need cells:Nat}{c:Option Addr}{r:R}(b:Mp h n e cs need cells sz c=some r):NC r:=by
 unfold Mp at b;split at b
 .obtain⟨t,a,_⟩:=Tr.set_some none _ _ _ _ _ b;injection a with a;subst a;trivial
 split at b
 .split at b
  .obtain⟨t,a,_⟩:=Tr.set_some none _ _ _ _ _ b;obtain⟨t,a,_⟩:=Tr.set_some none _ _ _ _ _ a;injection a with a;subst a;trivial
  cases b
 obtain⟨t,a,_⟩:=Tr.set_some none _ _ _ _ _ b;injection a with a;subst a;trivial
theorem OM{ts:List TypeId}{h:Hp}{n:Nat}{r:R}(a:appE E ts args h n=some r):NC r:=by
 unfold appE at a;split at a
 .split at a
  .cases a
  .cases a
  unfold pR at a;split at a
  .split at a
   .split at a
    .split at a
     .split at a
      .unfold rN at a;split at a
       .injection a with a;subst a;trivial
       .split at a
        .injection a with a;subst a;trivial
        cases a
       cases a
      split at a
      .rw[wT]at a;exact Sa a
      cases a
     cases a
    cases a
   cases a
  cases a
 cases a
theorem ON{ts:List TypeId}{h:Hp}{n:Nat}{r:R}(a:cpyE E ts args h n=some r):NC r:=by
 unfold cpyE at a;split at a
 .unfold Mq at a;split at a
  .split at a
   .split at a
    .injection a with a;subst a;trivial
    .split at a
     .injection a with a;subst a;trivial
     cases a
    cases a
   cases a
  cases a
 cases a
theorem OO{P:Program}{g:Operand→Value}{hp:Hp}{u:Nat}(b:effE E o.op g hp u=some (.enter f args)):
  (∀w:World,(execOp (fun x=>conc ρ (g x)) o).run P w=(callFunc f (args.map (conc ρ)).toArray).run P w)∧∀m,(∀x,Nb m (g x))→∀x∈args,Nb m x:=by
 unfold effE at b;split at b
 .rename_i t a x ho;unfold kx at b;split at b
  .split at b
   .split at b<;>cases b
   cases b
  cases b
 .rename_i c ho;obtain⟨q,p,A⟩:=c;obtain⟨p⟩:=p;unfold pQ at b;simp only at b;split at b
  .exact(OM b).elim
  .exact(ON b).elim
  .rename_i fo;unfold ML at b;split at b
   .rename_i gf first cap hf
    split at b
    .cases b
    injection b with b
    injection b with h1 h2
    subst h1 h2;refine⟨fun w=>?_,fun m s x d=>?_⟩
    .unfold execOp;simp only[ho,hf,lJ,resolve,IP,Ren.fn,EW,GW,Ey,invoke,H3];congr 2;apply G2;simp
    have j:=(s fo);rw[hf]at j;simp only[Ec,EX]at d;rcases d with d|⟨y,_,rfl⟩|d
    .exact j.first.1 x d
    .exact s y
    exact j.first.2 x d
   .cases b
   cases b
  cases b
 cases b
theorem fj{P:Program}{g:Operand→Value}{hp:Hp}{A:Nat}(d:effE E o.op g hp A=some (.round l args)):
  (∀w:World,(execOp (fun x=>conc ρ (g x)) o).run P w=(ad7 (ρ.b l) (args.map (conc ρ)).toArray).run P w)∧∀m,(∀x,Nb m (g x))→∀x∈args,Nb m x:=by
 unfold effE at d;split at d
 .rename_i t a x ho;unfold kx at d;split at d
  .split at d
   .split at d<;>cases d
   cases d
  cases d
 .rename_i c ho;obtain⟨s,p,B⟩:=c;obtain⟨p⟩:=p;unfold pQ at d;simp only at d;split at d
  .exact(OM d).elim
  .exact(ON d).elim
  .rename_i fo;unfold ML at d;split at d
   .split at d<;>cases d
   .rename_i l' first cap hf
    injection d with d
    injection d with h1 h2
    subst h1 h2;refine⟨fun w=>?_,fun m u x j=>?_⟩
    .unfold execOp;simp only[ho,hf,lJ,resolve,IP,Ren.fn,EW,GW,Ey,invoke,H3];congr 2;apply G2;simp
    have q:=(u fo);rw[hf]at q;simp only[Ec,EX]at j;rcases j with j|⟨y,_,rfl⟩
    .exact q.first.1 x j
    exact u y
   cases d
  cases d
 cases d
theorem Sb{C:Ctx}{ρ0:Ren}{h0:Hp}(hE:EnvOk2 X.E X.P)(hX:C.E=X.E)(hC:CalOk X C.C){s:St}(y:yu o=true){k:St→List Nat→Option β}{r:β}(p:effK C s o k=some r):
  ∃I W,k I W=some r∧∀(J:Option Nat) (kk:Nat) (a:Act) (w:World) (ρ:Ren) (M:List Nat),TR ρ s.t C.nt a.tmps→(∀i,Nb (3*s.n) (nth s.t i))→Post X ρ0 C.n0 h0 w0 s.w ρ undef s.h s.n w→a.defers=gK M→M.Nodup→
   (∀k∈M,w.heap[k]?=some (.deferred (some []))∧w0.heap.size≤k∧∀b,(s.h.at b).isSome→ρ.b b≠k)→
   ∀(K:Act→World→Prop) (Q:Exit→Act→World→Prop),(∀a' w',Lt X C.nt C.n0 ρ0 h0 w0 I a' w'→K a' w')→o.wpIn (Wd J) kk X.P a w K Q:=by
 unfold effK at p;rw[hX]at p;split at p
 .rename_i v h1 n1 W hv;obtain⟨I,G,g⟩:=rO (X:=X) (ρ0:=ρ0) (h0:=h0) (w0:=w0) p;refine⟨I,W,G,fun J kk a w ρ M H D q B F Z1 K Q N=>?_⟩;obtain⟨u,w',nx,T,a0,d⟩:=OL hE q.sim q.nb (fun x=>cd D x) hv;refine tD y (by rw[mU H y];exact T) a0 (N _ _ (g a w ρ M H D q B F Z1 u w' d))
 .rename_i f args hv;split at p
  .rename_i v h1 n1 W hcall;obtain⟨I,G,g⟩:=rO (X:=X) (ρ0:=ρ0) (h0:=h0) (w0:=w0) p;refine⟨I,W,G,fun J kk a w ρ M H D q B F Z1 K Q N=>?_⟩;obtain⟨Z0,A⟩:=OO (ρ:=ρ) (P:=X.P) hv;obtain⟨T,j⟩:=hC.call _ _ _ _ _ _ _ _ hcall (kk-1) ρ w q.sim q.nb (A _ (fun x=>cd D x));refine⟨fun _ _=>trivial,?_⟩;rw[IY _ _ _ (fun c V=>by unfold yu at y;rw[V]at y;simp at y),mU H y,Z0 w,T];refine⟨fun Z3=>by simp[Wd,Gu]at Z3,?_⟩;have R:CallsIn (Wd J) (kk-1) X.P f (args.map (conc ρ)).toArray w fun e w'=>∃u,e=.returned (conc u v)∧Post X ρ s.n s.h w W u v h1 n1 w':=j;exact Cy
  cases p
 .rename_i l args hv;split at p
  .rename_i v h1 n1 W hcall;obtain⟨I,G,g⟩:=rO (X:=X) (ρ0:=ρ0) (h0:=h0) (w0:=w0) p;refine⟨I,W,G,fun J kk a w ρ M H D q B F Z1 K Q N=>?_⟩;obtain⟨Z0,A⟩:=fj (ρ:=ρ) (P:=X.P) hv;obtain⟨f,tm,L,Z4,T,j⟩:=hC.yl _ _ _ _ _ _ _ _ hcall (kk-1) ρ w q.sim q.nb (A _ (fun x=>cd D x));refine⟨fun _ _=>trivial,?_⟩;rw[IY _ _ _ (fun c V=>by unfold yu at y;rw[V]at y;simp at y),mU H y,Z0 w,T];refine⟨fun Z3=>by simp[Wd,Gu]at Z3,?_⟩;have R:RoundIn (Wd J) (kk-1) X.P (ρ.b l) f tm L Z4 w fun e w'=>∃u,e=.returned (conc u v)∧Post X ρ s.n s.h w W u v h1 n1 w':=j;exact Cy
  cases p
 cases p
end
end
section
variable {E:Env}{ρ:Ren}
section
variable {X:Rel}{C:Ctx}{ρ0:Ren}{h0:Hp}
def bg(X:Rel)(C:Ctx)(ρ0:Ren)(h0:Hp)(w0:World)(s:St)(o:Oper)(s':St):Prop:=
 ∀(ro:Option Nat) (kk:Nat) (a:Act) (w:World) (ρ:Ren) (M:List Nat),TR ρ s.t C.nt a.tmps→(∀i,Nb (3*s.n) (nth s.t i))→Post X ρ0 C.n0 h0 w0 s.w ρ undef s.h s.n w→a.defers=gK M→M.Nodup→
   (∀k∈M,w.heap[k]?=some (.deferred (some []))∧w0.heap.size≤k∧∀b,(s.h.at b).isSome→ρ.b b≠k)→
   ∀(K:Act→World→Prop) (Q:Exit→Act→World→Prop),(∀a' w',Lt X C.nt C.n0 ρ0 h0 w0 s' a' w'→K a' w')→o.wpIn (Wd ro) kk X.P a w K Q
theorem eZ{P:Program}(d:EnvOk E P){g:Operand→Value}(i:∀x,Nb m (g x))(h:yJ E o.op g=some v):Nb m v:=by
 intro ρ c f;have w:World:=default;have e:=qU d w (g':=fun x=>conc ρ (g x)) ρ (fun _=>rfl) h;have a:=qU d w (g':=fun x=>conc c (g x)) c (fun _=>rfl) h;have:(fun x=>conc c (g x))=fun x=>conc ρ (g x):=funext fun x=>i x ρ c f;rw[this,e]at a;injection a with a
 injection a with a
 exact a.symm
theorem tM{s:St}(l:yu o=true){k:St→Option β}{r:β}(B:done C s o.dst v s.h s.n [] k=some r)
  (hv:∀(ρ:Ren) (w:World),Sim X ρ s.h w→K9 (3*s.n) s.h→(∀i,Nb (3*s.n) (nth s.t i))→(execOp (fun x=>conc ρ (ev s.t x)) o).run X.P w=.ok (.value (conc ρ v)) w∧Nb (3*s.n) v):
  ∃e,k e=some r∧bg X C ρ0 h0 w0 s o e:=by
 obtain⟨e,p,d⟩:=rO (X:=X) (ρ0:=ρ0) (h0:=h0) (w0:=w0) B;refine⟨e,p,fun G F a w ρ M q g c f j A K Q y=>?_⟩;obtain⟨D,u⟩:=hv ρ w c.sim c.nb g;exact tD l (by rw[mU q l];exact D) (.inl rfl) (y _ _ (d a w ρ M q g c f j A ρ w (Post.refl c.sim c.nb u)))
theorem kT(A:EnvOk2 X.E X.P){s:St}(q:yu o=true){m:Mk}(F:KX X.E o.op (ev s.t)=some m){k:St→Option β}{r:β}(c:Mc C s o.dst m k=some r):
  ∃f,k f=some r∧bg X C ρ0 h0 w0 s o f:=by
 unfold Mc at c;rw[wT]at c;obtain⟨J,c,i⟩:=Tr.set_some none _ _ _ _ _ c;obtain⟨f,u,e⟩:=rO (X:=X) (ρ0:=ρ0) (h0:=h0) (w0:=w0) c;refine⟨f,u,fun N L a w ρ M y l g j p D K Q B=>?_⟩;obtain⟨I,H,G,d⟩:=OJ A.toEnvOk g.sim g.nb (fun x=>cd l x) F i;exact tD q (by rw[mU y q];exact G) (.inl rfl) (B _ _ (e a w ρ M y l g j p D I H d))
theorem Sc(e:EnvOk2 X.E X.P){s:St}(c:tW X.E o.op (ev s.t) s.h=some (v,b)){w:World}(i:Sim X ρ s.h w)(f:K9 (3*s.n) s.h):
  (execOp (fun x=>conc ρ (ev s.t x)) o).run X.P w=.ok (.value (conc ρ v)) w∧Nb (3*s.n) v:=by
 unfold tW at c;split at c
 .rename_i t a ho;split at c
  .rename_i ad ha;split at c
   .rename_i u hu;simp at c;obtain⟨rfl,rfl⟩:=c;obtain⟨g,d,_⟩:=mN e.toEnvOk i f hu;refine⟨?_,d⟩;unfold execOp;simp[ho,ha,ak0,HT,g]
   cases c
  cases c
 cases c
theorem Sd(c:EnvOk2 X.E X.P)(p:C.E=X.E)(y:CalOk X C.C){s:St}(e:yu o=true){k:St→Option β}{r:β}(a:Mi C s o k=some r):
  ∃l,k l=some r∧bg X C ρ0 h0 w0 s o l:=by
 unfold Mi at a;rw[p]at a;split at a
 .split at a
  .rename_i v hv;exact Cw
  cases a
 .split at a
  .rename_i v b hv;exact tM e a fun ρ w g f i=>Sc c hv g f
  cases a
 .split at a
  .rename_i m hm;exact kT c e hm a
  cases a
 .obtain⟨l,W,u,j⟩:=Sb (ρ0:=ρ0) (h0:=h0) (w0:=w0) c p y e a;exact⟨l,u,j⟩
 split at a
 .rename_i m hm;exact kT c e hm a
 split at a
 .rename_i t d x hop;split at a
  .rename_i v hv;refine tM e a fun ρ w g f i=>?_;obtain⟨A,q⟩:=R1 c.toEnvOk g f hv;refine⟨?_,q⟩;unfold execOp;simp[hop,A]
  split at a
  .rename_i v hv;exact Cw
  cases a
 cases a
theorem Se{s:St}{a:Act}(e:TR ρ s.t nt a.tmps)(o:Oper):IZ o (yielded ops a.tmps)=uo ops.toList s.t o:=by
 unfold IZ uo;cases hg:o.guard with
 |none=>rfl
 |some p=>
  obtain⟨j,b⟩:=p;simp only[G6];unfold yielded;cases hj:ops[j]? with
  |none=>simp
  |some g=>
   simp only[H4];cases hdst:g.dst with
   |none=>simp
   |some d=>
    by_cases hlt:d<nt
    .simp only[H4,e.at_ d hlt];cases hv:nth s.t d with
     |bool c=>cases b<;>cases c<;>simp
     |pointer q=>cases q<;>simp
     |slice q _ _=>cases q<;>simp
     |_=>simp[conc]
    have f:a.tmps[d]?=none:=FA (by rw[e.size];exact HB hlt);have i:=e.past d (HB hlt);simp[f,i,undef]
theorem Sf(T:EnvOk2 X.E X.P)(Z4:C.E=X.E)(S:CalOk X C.C)(G:∀o∈ops,yu o=true):∀(d j:Nat) (s s':St),j+d=ops.size→qa C ops.toList (ops.toList.drop j) s=some s'→
  ∀(e:Option Nat) (kk:Nat) (a:Act) (w:World) (Q:Exit→Act→World→Prop),Lt X C.nt C.n0 ρ0 h0 w0 s a w→(∀l y,Lt X C.nt C.n0 ρ0 h0 w0 s' l y→Q .normal l y)→
   wpOpsIn (Wd e) kk X.P ops Q (I2 j d) a w:=by
 intro d;induction d with
 |zero=>
  intro j s s' V c e kk a w Q D q;rw[List.drop_eq_nil_of_le eN]at c;simp[qa]at c;subst c;exact q a w D
 |succ d ih=>
  intro j s s' V c e kk a w Q D q;have A:j<ops.size:=Z;rw[List.drop_eq_getElem_cons eN]at c;rw[List.range'_succ];have F:ops[j]?=some ops[j]:=G8 A;have Z1:ops.toList[j]' eN=ops[j]:=by simp
  rw[Z1]at c;obtain⟨ρ,M,B,I,p,J,K,L⟩:=D;have R:=G _ (HQ A);show(match ops[j]? with
   |none=>wpOpsIn (Wd e) kk X.P ops Q (I2 (j+1) d) a w
   |some o=>if IZ o (yielded ops a.tmps)then o.wpIn (Wd e) kk X.P a w (wpOpsIn (Wd e) kk X.P ops Q (I2 (j+1) d)) Q
     else(∀f,o.about X.P w a.eval=some f→(Wd e).fn f)∧wpOpsIn (Wd e) kk X.P ops Q (I2 (j+1) d) (a.put o.dst undef) w)
  rw[F];simp only;rw[Se B];change Ii (motive:=fun _=>Option St) (done C s ops[j].dst undef s.h s.n [] (qa C ops.toList (ops.toList.drop (j+1)))) (Mi C s ops[j] (qa C ops.toList (ops.toList.drop (j+1)))) (uo ops.toList s.t ops[j])=some s' at c;cases hw:uo ops.toList s.t ops[j]with
  |true=>
   rw[hw]at c;simp only[if_true];obtain⟨H,g,i⟩:=Sd (ρ0:=ρ0) (h0:=h0) (w0:=w0) T Z4 S R c;exact i e kk a w ρ M B I p J K L _ _ fun l y N=>ih (j+1) H s' Z g e kk l y Q N q
  |false=>
   rw[hw]at c;simp only[FE,if_false];refine⟨fun _ _=>trivial,?_⟩;obtain⟨H,g,u⟩:=rO (X:=X) (ρ0:=ρ0) (h0:=h0) (w0:=w0) c;have:=u a w ρ M B I p J K L ρ w (Post.refl p.sim p.nb Nb.undef);rw[Rx]at this;exact ih (j+1) H s' Z g e kk _ w Q this q
end
end
section
variable {ρ ρ':Ren}
section
variable {w:World}
theorem kf{c:Code}(J:Nat→Act→World→Prop)(h0:∀a w,¬J 0 a w)(q:∀j a w,J (j+1) a w→c.wpIn F n P (Exit.then (fun g w'=>J j g w') Q) a w)(j:Nat)(o:J j a w):(Code.loop c).wpIn F n P Q a w:=by
 intro b k s B u y;have D:∀j a w,J j a w→∃e g w',Q e g w'∧ArrivesIn (Machine.fenced P F) P (lone (b.atR a (.code c:: .inLoop c::k)) s w) b k s e g w':=by
  intro j;induction j with
  |zero=>intro a w o;exact oU o (h0 a w)
  |succ j ih=>
   intro a w o;obtain⟨e,i,m,f,d⟩:=q j a w o b (.inLoop c::k) s B u y;cases e with
   |normal=>
    obtain⟨H,G,I,A,p⟩:=ih i m f;exact⟨H,G,I,A,.of_steps (ah6 d (.one (fenced_calm u y rfl) stepR_inLoop)) p⟩
   |exit id=>exact⟨_,i,m,f,.pass (x:=.inLoop c) rfl (fun _ _=>.inl cA) d⟩
   |goto l=>exact⟨_,i,m,f,.pass (x:=.inLoop c) rfl (fun _ _=>.inl cA) d⟩
   |ret=>exact⟨_,i,m,f,.pass (x:=.inLoop c) rfl (fun _ _=>.inl cA) d⟩
   |panic ch=>exact⟨_,i,m,f,.pass (x:=.inLoop c) rfl (fun _ _=>.inl cA) d⟩
   |outgrown=>exact⟨_,i,m,f,.pass (x:=.inLoop c) rfl (fun _ _=>.inl cA) d⟩
 obtain⟨e,g,w',f,d⟩:=D j a w o;exact⟨e,g,w',f,.of_steps (.one (fenced_calm u y rfl) stepR_loop) d⟩
theorem wZ{b:Frame}{k:List Item}{cs:List Frame}{c:Code}:step P (lone (b.atR a (.code (.scope c)::k)) cs w)=.next (lone (b.atR a (.code c:: .inScope c::k)) cs w):=
 step_lone_go (by simp[stepG,ap3,as7])
theorem jz{b:Frame}{k:List Item}{cs:List Frame}{c:Code}:step P (lone (b.atR a (.inScope c::k)) cs w)=.next (lone (b.atR a k) cs w):=
 step_lone_go (by simp[stepG,ap3,as7])
theorem oT{c:Code}(h:c.wpIn F n P Q a w)(hq:∀l a w,¬Q (.goto l) a w):(Code.scope c).wpIn F n P Q a w:=by
 intro b k cs hro hb hr;have h0:(lone (b.atR a (.code (.scope c)::k)) cs w).fenced P F:=fenced_calm hb hr rfl;obtain⟨e,a₁,w₁,hq1,harr⟩:=h b (.inScope c::k) cs hro hb hr;cases e with
 |normal=>exact⟨.normal,a₁,w₁,hq1,.head h0 wZ (ah6 harr (.one (fenced_calm hb hr rfl) jz))⟩
 |exit id=>
  have hx:exitTo id (.inScope c::k)=exitTo id k:=by simp[exitTo]
  exact⟨_,a₁,w₁,hq1,fun k' hk=>.head h0 wZ (harr.1 k' (by rw[hx];exact hk)),
   fun hr' hk=>let ⟨k₁,h1,h2⟩:=harr.2 hr' (by rw[hx];exact hk);⟨k₁,h1,.head h0 wZ h2⟩⟩
 |goto l=>exact oU hq1 (hq l a₁ w₁)
 |ret=>exact⟨_,a₁,w₁,hq1,.of_steps (.one h0 wZ) harr⟩
 |panic ch=>exact⟨_,a₁,w₁,hq1,.of_steps (.one h0 wZ) harr⟩
 |outgrown=>exact⟨_,a₁,w₁,hq1,.of_steps (.one h0 wZ) harr⟩
end
section
variable {X:Rel}{C:Ctx}{ρ0:Ren}{h0:Hp}
def MK(w0:World)(M:List Nat)(h:Hp)(ρ:Ren)(w:World):Prop:=∀k∈M,w.heap[k]?=some (.deferred (some []))∧w0.heap.size≤k∧∀b,(h.at b).isSome→ρ.b b≠k
theorem MK.step{M:List Nat}{n:Nat}{h h':Hp}{w:World}(m:MK w0 M h ρ w)(d:Post X ρ n h w W ρ' v h' n' w'):MK w0 M h' ρ' w':=by
 intro k p;obtain⟨l,s,g⟩:=m k p;have j:k<w.heap.size:=(Ei.1 l).1;refine⟨?_,s,fun b e f=>?_⟩
 .rw[d.fr k j fun b e=>g b (d.wmem b e)];exact l
 by_cases hb3:b<3*n
 .have q:(h.at b).isSome:=by
   by_cases hbW:b∈W
   .exact d.wmem b hbW
   rw[←d.old b hb3 hbW];exact e
  rw[(d.agr b hb3).1]at f;exact g b q f
 rcases d.new b Z e with i|⟨c,o,i⟩
 .omega
 rw[i]at f;exact g c (d.wmem c o) f
theorem Post.shut{n:Nat}{h h':Hp}{w:World}(p:Post X ρ0 n0 h0 w0 W ρ v h n w)(M:3*n0≤b)(y:(h.at b).isSome)(L:w0.heap.size≤ρ.b b)(s:∀c,h'.at c=if c=b then none else h.at c)
  (g:∀k,k≠ρ.b b→w'.heap[k]?=w.heap[k]?)(D:w'.heap.size=w.heap.size)(B:w'.os=w.os)(G:w'.tape=w.tape)(m:w'.output=w.output):Post X ρ0 n0 h0 w0 W ρ v h' n w':=by
 have f:∀c x,h'.at c=some x→c≠b∧h.at c=some x:=fun c x d=>by
  rw[s]at d;split at d
  .cases d
  exact⟨nN,d⟩
 have e:∀c,(h'.at c).isSome→c≠b∧(h.at c).isSome:=fun c d=>by
  obtain⟨x,H⟩:=Eg.1 d;exact⟨(f c x H).1,by rw[(f c x H).2];rfl⟩
 refine⟨p.agr,p.le,⟨fun c x d=>?_,fun c q l u j=>p.sim.inj c q (e c l).2 (e q u).2 j⟩,fun c x d=>p.nb c x (f c x d).2,p.val,p.wlt,p.wmem,fun k I i=>?_,by rw[D];exact p.size,B.trans p.os,G.trans p.tape,m.trans p.out,fun c d l=>p.new c d (e c l).2,fun c d i=>?_⟩
 .obtain⟨A,d⟩:=f c x d;obtain⟨o,J,K⟩:=p.sim.blk c x d;refine⟨o,?_,K⟩;rw[g _ (fun j=>A (p.sim.inj c b (by rw[d];rfl) y j))];exact J
 .rw[g k Z];exact p.fr k I i
 rw[s,CT Z];exact p.old c d i
theorem Post.wcongr{n:Nat}{h:Hp}{w:World}{f:List Nat}(p:Post X ρ0 n0 h0 w0 W ρ v h n w)(e:∀b,b∈W↔b∈f):Post X ρ0 n0 h0 w0 f ρ v h n w:=
 ⟨p.agr,p.le,p.sim,p.nb,p.val,fun b d=>p.wlt b ((e b).2 d),fun b d=>p.wmem b ((e b).2 d),fun k m h=>p.fr k m fun b d=>h b ((e b).1 d),p.size,p.os,p.tape,p.out,
  fun b d l=>(p.new b d l).imp id fun⟨c,i,j⟩=>⟨c,(e c).1 i,j⟩,fun b d h=>p.old b d fun g=>h ((e b).1 g)⟩
def exOf:Ex→Exit
 | .normal=>.normal
 | .exit id=>.exit id
 | .ret=>.ret
theorem eO(hE:EnvOk2 X.E X.P)(hC:CalOk X C.C){g:Operand}{ps:Array Tmp}(hg:pM g=true)(hok1:X.ok assign)(hok2:X.ok body){s s':St}{x:Ex}
  (hr:om C (ev s.t g) ps.toList assign body s=some (x,s'))(kk:Nat)(a:Act)(w:World)(Q:Exit→Act→World→Prop)(hI:Lt X C.nt C.n0 ρ0 h0 w0 s a w)(hQ:∀a' w',Lt X C.nt C.n0 ρ0 h0 w0 s' a' w'→Q (exOf x) a' w'):
  (Code.rangeFunc g ps assign body).wpIn (Wd none) kk X.P Q a w:=by
 obtain⟨ρ,M,ht,hn,hp,hdf,hnd,hM⟩:=hI;unfold om at hr;split at hr
 .rename_i gf first cap hgv hround
  rw[wb,wb]at hr;obtain⟨t1,hr,hg1⟩:=Tr.set_some none _ _ _ _ _ hr;obtain⟨t2,hr,hg2⟩:=Tr.set_some none _ _ _ _ _ hr;split at hr
  .rename_i v3 h3 n3 w3 hcall;split at hr
   .rename_i r p tt nt' ps' as' bd' d' hl3 hd3;split at hr
    .rename_i x' hj;obtain⟨t4,hr,hg4⟩:=Tr.set_some none _ _ _ _ _ hr;obtain⟨t5,hr,hg5⟩:=Tr.set_some none _ _ _ _ _ hr;simp at hr;obtain⟨rfl,rfl⟩:=hr;have hpd:Post X ρ s.n s.h w [] (ρ.upd (3*s.n+2) w.heap.size 0 (fun _=>rfl) Z) undef t1 (s.n+1) (w.alloc (.deferred (some []))):=
      ny hp.sim hp.nb (y:=.dfr) (fun _=>rfl) Z Z Z rfl rfl rfl rfl rfl hg1 rfl trivial Nb.undef
     generalize hρ1:ρ.upd (3*s.n+2) w.heap.size 0 (fun _=>rfl) Z=ρ1 at hpd;have hb1:ρ1.b (3*s.n+2)=w.heap.size:=by rw[←hρ1];simp[Ren.upd]
     have ht1:=ht.agr hn hpd.agr;have hn1:∀i,Nb (3*(s.n+1)) (nth s.t i):=fun i=>(hn i).mono Z;refine wpIn_rangeFunc fun fn _=>?_;let w1a:=w.alloc (.deferred (some []))
     let lo:Obj:=.loop {state:=.ready,pending:=none,fn:=fn,tmps:=a.tmps,params:=ps,assign:=assign,body:=body,defers:=w.heap.size}
     have hsz1:w1a.heap.size=w.heap.size+1:=by simp[w1a]
     have hx2:gro (3*(s.n+1)+2)=false→(0:Nat)=0:=fun _=>rfl;have hm2:(3*(s.n+1)+2)%3≠0:=Z;have hagr2:=ρ1.upd_agr (3*(s.n+1)+2) w1a.heap.size 0 hx2 hm2 (m:=3*(s.n+1)) Z;have hpl:Post X ρ1 (s.n+1) t1 w1a [] (ρ1.upd (3*(s.n+1)+2) w1a.heap.size 0 hx2 hm2) undef t2 (s.n+1+1) (w1a.alloc lo):=
      ny hpd.sim hpd.nb (y:=.loop true none s.t C.nt ps.toList assign body (3*s.n+2)) hx2 hm2 Z Z rfl rfl rfl rfl rfl hg2
       ⟨fn,a.tmps,by rw[(hagr2 (3*s.n+2) Z).1,hb1];simp[lo],ht1.agr hn1 hagr2,hok1,hok2⟩ ⟨hn1,Z⟩ Nb.undef
     generalize hρ2:ρ1.upd (3*(s.n+1)+2) w1a.heap.size 0 hx2 hm2=ρ2 at hpl;have hb2:ρ2.b (3*(s.n+1)+2)=w.heap.size+1:=by rw[←hρ2];simp[Ren.upd,hsz1]
     have hfv:Nb (3*s.n) (.func (.func gf) first cap):=by rw[←hgv];exact cd hn g
     have hag12:Lc (3*s.n) ρ ρ2:=hpd.agr.trans hpl.agr Z;have hargsN:∀y∈first.toList++([HU (.yield (3*(s.n+1)+2)) #[] #[]]++cap.toList),Nb (3*(s.n+1+1)) y:=fun y hy=>by
      simp only[Ec,List.mem_singleton]at hy;rcases hy with hy|rfl|hy
      .exact(hfv.first.1 y hy).mono Z
      .intro r1 r2 hr;simp[Ren.fn,(hr (3*(s.n+1)+2) Z).1]
      exact(hfv.first.2 y hy).mono Z
     obtain⟨hent,hcalls⟩:=hC.call _ _ _ _ _ _ _ _ hcall (kk-1) ρ2 (w1a.alloc lo) hpl.sim hpl.nb hargsN;have haval:a.eval g=.func (.func gf) (first.map (conc ρ)) (cap.map (conc ρ)):=by
      rw[cj ht hg,hgv];simp[Ren.fn]
     have hfirst:first.toList.map (conc ρ2)=first.toList.map (conc ρ):=Nb.map hfv.first.1 hag12
     have hcap:cap.toList.map (conc ρ2)=cap.toList.map (conc ρ):=Nb.map hfv.first.2 hag12
     have hargs:(first.map (conc ρ)++#[HU (.yield (w.heap.size+1)) #[] #[]])++cap.map (conc ρ)=((first.toList++([HU (.yield (3*(s.n+1)+2)) #[] #[]]++cap.toList)).map (conc ρ2)).toArray:=by
      apply G2;simp only[EN,hfirst,hcap];simp[Ren.fn,hb2]
     refine⟨w.heap.size+1,[{target:=.collected w.heap.size,args:=#[]}],w1a.alloc lo,{target:=.fn (.func gf) (cap.map (conc ρ)),args:=first.map (conc ρ)++#[HU (.yield (w.heap.size+1)) #[] #[]]},w1a.alloc lo,gf,((first.toList++([HU (.yield (3*(s.n+1)+2)) #[] #[]]++cap.toList)).map (conc ρ2)).toArray,w1a.alloc lo,
      run_enterLoop_outer fn a.tmps ps assign body,?_,fun _ _=>trivial,?_,fun hd=>by simp[Wd,Gu]at hd,?_⟩
     .simp[resolve,rangeCall,haval,IP];rfl
     .simp only[invoke];rw[hargs];exact hent
     have hc2:CallsIn (Wd none) (kk-1) X.P gf ((first.toList++([HU (.yield (3*(s.n+1)+2)) #[] #[]]++cap.toList)).map (conc ρ2)).toArray (w1a.alloc lo) fun e w'=>∃ρ',e=.returned (conc ρ' v3)∧Post X ρ2 (s.n+1+1) t2 (w1a.alloc lo) w3 ρ' v3 h3 n3 w':=hcalls;refine hc2.mono fun e w' hew=>?_;obtain⟨ρ3,rfl,hpc⟩:=hew;have hb3l:ρ3.b (3*(s.n+1)+2)=w.heap.size+1:=by rw[(hpc.agr _ Z).1,hb2]
     have hb3d:ρ3.b (3*s.n+2)=w.heap.size:=by rw[(hpc.agr _ Z).1,(hpl.agr _ Z).1,hb1]
     obtain⟨ol,hol,hrl⟩:=hpc.sim.blk _ _ hl3;obtain⟨fn',tm',rfl,htl,_⟩:=hrl;rw[hb3l]at hol;obtain⟨od,hod,rfl⟩:=hpc.sim.blk _ _ hd3;rw[hb3d]at hod;have hp1:=(hp.trans hpd).trans (hpl.trans hpc);have hsz0:w0.heap.size≤w.heap.size:=hp.size;have hMM:MK w0 M h3 ρ3 w':=((MK.step hM hpd).step hpl).step hpc;have hnb:(if r=true then LoopState.ready else if p.isNone=true then LoopState.busy else LoopState.done)≠.busy:=by
      cases r<;>cases p<;>simp[MO]at hj⊢
     let lo2:Obj:=.loop {state:=.exhausted,pending:=p,fn:=fn',tmps:=tm',params:=ps'.toArray,assign:=as',body:=bd',defers:=ρ3.b d'}
     let w4:=w'.putObj (w.heap.size+1) lo2
     have hend:=run_endLoop (P:=X.P) hol hnb;have hfar4:∀k,k≠w.heap.size+1→w4.heap[k]?=w'.heap[k]?:=fun k hk=>Gn hk;have hp4:=Post.shut (h':=t4) (w':=w4) hp1 (by have:=hp.le;omega) (by rw[hl3];rfl) (by rw[hb3l];omega) hg4 (by rw[hb3l];exact hfar4) (by simp[w4]) rfl rfl rfl;have hd4:Hp.at t4 (3*s.n+2)=some .dfr:=by
      show Tr.get none t4 _=_;rw[hg4,CT Z];exact hd3
     have hp5:=Post.shut (h':=t5) (w':=w4) hp4 (by have:=hp.le;omega) (by rw[hd4];rfl) (by rw[hb3d];omega) hg5 (fun _ _=>rfl) rfl rfl rfl rfl;have hat5:∀b,(Hp.at t5 b).isSome→b≠3*s.n+2∧b≠3*(s.n+1)+2∧(h3.at b).isSome:=fun b hb=>by
      have hb':(Tr.get none t5 b).isSome:=hb;rw[hg5]at hb';split at hb'
      .cases hb'
      rename_i h1;rw[hg4]at hb';split at hb'
      .cases hb'
      rename_i h2;exact⟨h1,h2,hb'⟩
     have hI':Lt X C.nt C.n0 ρ0 h0 w0 {t:=s.t,h:=t5,n:=n3,w:=addW C.n0 w3 s.w} {a with defers:=[{target:=.collected w.heap.size,args:=#[]}]++a.defers} w4:=by
      have hag3:Lc (3*s.n) ρ ρ3:=hag12.trans hpc.agr Z;have hle3:=hpc.le;refine⟨ρ3,w.heap.size::M,ht.agr hn hag3,fun i=>(hn i).mono (by show 3*s.n≤3*n3;omega),?_,?_,?_,fun k hk=>?_⟩
      .refine(hp5.wv Nb.undef).wcongr fun b=>?_;have:=hp.le;simp only[xc];constructor
       .rintro((h|⟨h,_⟩)|⟨h|⟨h,_⟩,h'⟩)
        .exact .inl h
        .cases h
        .cases h
        exact .inr ⟨h,h'⟩
       rintro(h|⟨h,h'⟩)
       .exact .inl (.inl h)
       exact .inr ⟨.inr ⟨h,Z⟩,h'⟩
      .simp[gK,hdf]
      .refine JW.2 ⟨fun hk=>?_,hnd⟩;have:=(Ei.1 (hM _ hk).1).1;omega
      rcases DR.1 hk with rfl|hk
      .refine⟨?_,hsz0,fun b hb he=>?_⟩
       .rw[hfar4 _ Z];exact hod
       obtain⟨h1,h2,h3'⟩:=hat5 b hb;exact h1 (hpc.sim.inj b (3*s.n+2) h3' (by rw[hd3];rfl) (by rw[he,hb3d]))
      obtain⟨m1,m2,m3⟩:=hMM k hk;refine⟨?_,m2,fun b hb=>m3 b (hat5 b hb).2.2⟩;rw[hfar4 k (fun e=>?_)]
      .exact m1
      exact m3 (3*(s.n+1)+2) (by rw[hl3];rfl) (by rw[hb3l,e])
     refine⟨p,w4,hend,?_⟩;have hfin:=hQ _ _ hI';unfold MO at hj;split at hj
     .injection hj with hj
      subst hj;exact hfin
     .injection hj with hj
      subst hj;exact wpIn_ret hfin
     .injection hj with hj
      subst hj;exact wpIn_exit hfin
     cases hj
    cases hr
   cases hr
  cases hr
 cases hr
def xM(reg:Array Oper→Bool):Code→Bool
 | .region _ ops d=>ops.all yu&&(!d||reg ops)
 | .seq a b=>xM reg a&&xM reg b
 | .cond c a b=>pM c&&(xM reg a&&xM reg b)
 | .block _ c=>xM reg c
 | .loop c=>xM reg c
 | .scope c=>xM reg c
 | .rangeFunc f _ a b=>pM f&&(xM reg a&&xM reg b)
 |_=>true
def tw(X:Rel)(C:Ctx)(ρ0:Ren)(h0:Hp)(w0:World)(reg:Array Oper→Bool):Prop:=
 ∀(ops:Array Oper),reg ops=true→(∀o∈ops,yu o=true)→∀s s',vp C ops.toList ops.toList (wu ops.toList []) 0 ⟨s,[],[],[]⟩=some s'→
  ∀(ro:Option Nat) (kk:Nat) (a:Act) (w:World) (Q:Exit→Act→World→Prop),Lt X C.nt C.n0 ρ0 h0 w0 s a w→(∀a' w',Lt X C.nt C.n0 ρ0 h0 w0 s' a' w'→Q .normal a' w')→
   wpAnyIn (Wd ro) kk X.P .any ops Q ops.size (Ha ops.size false) a {w with drawn:=w.drawn+1}
theorem pI{reg:Array Oper→Bool}(R:EnvOk2 X.E X.P)(Z0:C.E=X.E)(Z4:CalOk X C.C)(hok:∀c,X.ok c↔xM reg c=true)(Z3:tw X C ρ0 h0 w0 reg):∀(c:Code),xM reg c=true→∀(s g:St) (x:Ex),uT C c s=some (x,g)→
  ∀(G:Option Nat) (kk:Nat) (a:Act) (w:World) (Q:Exit→Act→World→Prop),(C.round=none→G=none)→Lt X C.nt C.n0 ρ0 h0 w0 s a w→(∀l a w,¬Q (.goto l) a w)→(∀I w',Lt X C.nt C.n0 ρ0 h0 w0 g I w'→Q (exOf x) I w')→
   c.wpIn (Wd G) kk X.P Q a w:=by
 intro c;induction c with
 |skip=>
  intro _ s g x h G kk a w Q u A m B;have e:some (Ex.normal,s)=some (x,g):=h;injection e with e;injection e with h1 h2;subst h1 h2
  exact wpIn_skip (B a w A)
 |label l=>
  intro _ s g x h G kk a w Q u A m B;have e:some (Ex.normal,s)=some (x,g):=h;injection e with e;injection e with h1 h2;subst h1 h2
  exact wpIn_label (B a w A)
 |exit id=>
  intro _ s g x h G kk a w Q u A m B;have e:some (Ex.exit id,s)=some (x,g):=h;injection e with e;injection e with h1 h2;subst h1 h2
  exact wpIn_exit (B a w A)
 |ret=>
  intro _ s g x h G kk a w Q u A m B;have e:some (Ex.ret,s)=some (x,g):=h;injection e with e;injection e with h1 h2;subst h1 h2
  exact wpIn_ret (B a w A)
 |goto l=>intro _ s g x h;cases (show(none:Option (Ex×St))=some (x,g)from h)
 |refuse y=>intro _ s g x h;cases (show(none:Option (Ex×St))=some (x,g)from h)
 |region id ops d=>
  intro D s g x h G kk a w Q u A m B;simp[xM]at D;have N:∀o∈ops,yu o=true:=fun o ho=>by
   obtain⟨i,hi,rfl⟩:=J6.1 ho;exact D.1 i hi
  cases d with
  |false=>
   have e:(match qa C ops.toList ops.toList s with|some s=>some (Ex.normal,s)|none=>none)=some (x,g):=h;split at e
   .rename_i s1 hs1;injection e with e;injection e with h1 h2;subst h1 h2
    refine wpIn_region ?_;rw[List.range_eq_range'];exact Sf R Z0 Z4 N ops.size 0 s s1 Z (by simpa using hs1) G kk a w Q A B
   cases e
  |true=>
   have e:(match vp C ops.toList ops.toList (wu ops.toList []) 0 ⟨s,[],[],[]⟩with|some s=>some (Ex.normal,s)|none=>none)=some (x,g):=h;split at e
   .rename_i s1 hs1;injection e with e;injection e with h1 h2;subst h1 h2
    exact wpIn_region_any R.mixed (Z3 ops (by simpa using D.2) N s s1 hs1 G kk a w Q A B)
   cases e
 |seq p q ihp ihq=>
  intro D s g x h G kk a w Q u A m B;simp[xM]at D;have e:(match uT C p s with|some (.normal,g)=>uT C q g|r=>r)=some (x,g):=h;refine wpIn_seq ?_;split at e
  .rename_i s1 hs1;refine ihp D.1 s s1 _ hs1 G kk a w _ u A (fun l a w=>m l a w) fun I w' H=>?_;exact ihq D.2 s1 g x e G kk I w' Q u H m B
  rename_i hne;refine ihp D.1 s g x e G kk a w _ u A (fun l a w=>m l a w) fun I w' H=>?_;cases x with
  |normal=>exact oU e (hne g)
  |exit id=>exact B I w' H
  |ret=>exact B I w' H
 |cond o p q ihp ihq=>
  intro D s g x h G kk a w Q u A m B;simp[xM]at D;have e:(match ev s.t o with| Dk true=>uT C p s| Dk false=>uT C q s|_=>none)=some (x,g):=h;obtain⟨ρ,M,ht,V⟩:=id A;have Z1:=cj ht D.1;split at e
  .rename_i hv;rw[hv]at Z1;exact wpIn_cond_true (by simpa using Z1) (ihp D.2.1 s g x e G kk a w Q u A m B)
  .rename_i hv;rw[hv]at Z1;exact wpIn_cond_false (by simpa using Z1) (ihq D.2.2 s g x e G kk a w Q u A m B)
  cases e
 |block id p ihp=>
  intro D s g x h G kk a w Q u A m B;have e:(match uT C p s with|some (.exit j,g)=>(match Eh j id with|true=>some (Ex.normal,g)|false=>some (.exit j,g))|r=>r)=some (x,g):=h;refine wpIn_block ?_;split at e
  .rename_i j s1 hs1;split at e
   .rename_i J;have J:=Eb J;subst J;injection e with e;injection e with h1 h2;subst h1 h2
    refine ihp D s s1 _ hs1 G kk a w _ u A (fun l a w=>m l a w) fun I w' H=>?_;show(if j=j then Q .normal I w' else _);rw[De rfl];exact B I w' H
   rename_i J;have J:=HD J;injection e with e;injection e with h1 h2;subst h1 h2
   refine ihp D s s1 _ hs1 G kk a w _ u A (fun l a w=>m l a w) fun I w' H=>?_;show(if j=id then Q .normal I w' else Q (.exit j) I w');rw[CT J];exact B I w' H
  rename_i hne;refine ihp D s g x e G kk a w _ u A (fun l a w=>m l a w) fun I w' H=>?_;cases x with
  |normal=>exact B I w' H
  |exit j=>exact oU e (hne j g)
  |ret=>exact B I w' H
 |loop p ihp=>
  intro D s g x h G kk a w Q u A m B;have e:dE (uT C p) C.L s=some (x,g):=h;refine kf (fun j a w=>∃s,dE (uT C p) j s=some (x,g)∧Lt X C.nt C.n0 ρ0 h0 w0 s a w) (fun a w⟨s,T,_⟩=>by cases T) (fun j a w⟨s,T,A⟩=>?_) C.L ⟨s,e,A⟩;have K:(match uT C p s with|some (.normal,g)=>dE (uT C p) j g|r=>r)=some (x,g):=T;split at K
  .rename_i s1 hs1;exact ihp D s s1 _ hs1 G kk a w _ u A (fun l a w=>m l a w) fun I w' H=>⟨s1,K,H⟩
  rename_i hne;refine ihp D s g x K G kk a w _ u A (fun l a w=>m l a w) fun I w' H=>?_;cases x with
  |normal=>exact oU K (hne g)
  |exit id=>exact B I w' H
  |ret=>exact B I w' H
 |scope p ihp=>
  intro D s g x h G kk a w Q u A m B;exact oT (ihp D s g x h G kk a w Q u A m B) m
 |rangeFunc f ps asg bd _ _=>
  intro D s g x h G kk a w Q u A m B;simp[xM]at D;have e:om C (ev s.t f) ps.toList asg bd s=some (x,g):=h;have S:C.round=none:=by
   unfold om at e;split at e
   .rename_i S;exact S
   cases e
  have:=u S;subst this;exact eO R Z4 D.1 ((hok _).2 D.2.1) ((hok _).2 D.2.2) e kk a w Q A B
end
end
section
variable {ρ ρ':Ren}{fn:Func}
section
variable {X:Rel}{ρ0:Ren}{h0:Hp}
theorem gh:∀(args:List Value) (i:Nat) (t:Tr Value) (k:Tr Value→Option β) (r:β),mv args i t k=some r→
  ∃t',k t'=some r∧∀j,nth t' j=if i≤j∧j<i+O args then args.getD (j-i) undef else nth t j:=by
 intro args;induction args with
 |nil=>intro i t k r h;exact⟨t,h,fun j=>by rw[CT cA]⟩
 |cons v args ih=>
  intro i t k r h;obtain⟨c,e,a⟩:=Tr.set_some undef _ _ _ _ _ h;obtain⟨l,g,b⟩:=ih _ _ _ _ e;refine⟨l,g,fun j=>?_⟩;rw[b];simp only[D3];by_cases hj:j=i
  .subst hj;rw[CT Z,De Z];show Tr.get undef c j=_;rw[a];simp
  by_cases hr:i+1≤j∧j<i+1+O args
  .rw[De hr,De Z];rw[show j-i=(j-(i+1))+1 from Z];simp
  rw[CT hr,CT Z];show Tr.get undef c j=_;rw[a,CT hj]
theorem Sg(e:O args≤nt){t:Tr Value}(b:∀j,nth t j=if 0≤j∧j<0+O args then args.getD (j-0) undef else nth (Tr.mk undef d) j):
  TR ρ t nt ((args.map (conc ρ)).toArray++Ha (nt-(args.map (conc ρ)).toArray.size) undef):=by
 have a:∀j,nth (Tr.mk undef d) j=undef:=fun j=>Tr.get_mk undef d j;refine⟨eN,fun i c=>?_,fun i c=>?_⟩
 .rw[b];by_cases hl:i<O args
  .rw[De Z];simp[Array.getElem?_append,hl,Ir]
  rw[CT Z,a,Array.getElem?_append_right eN,Array.getElem?_replicate,De eN];simp
 rw[b,CT Z,a]
theorem Post.turn{h:Hp}{w:World}(p:Post X ρ0 n0 h0 w0 W ρ v h n w)(B:w0.heap.size≤k)(i:∀b,(h.at b).isSome→ρ.b b≠k)
  (a:∀j,j≠k→w'.heap[j]?=w.heap[j]?)(m:w'.heap.size=w.heap.size)(l:w'.os=w.os)(q:w'.tape=w.tape)(e:w'.output=w.output):Post X ρ0 n0 h0 w0 W ρ v h n w':=by
 refine⟨p.agr,p.le,⟨fun c x g=>?_,p.sim.inj⟩,p.nb,p.val,p.wlt,p.wmem,fun j u s=>?_,by rw[m];exact p.size,l.trans p.os,q.trans p.tape,e.trans p.out,p.new,p.old⟩
 .obtain⟨o,y,A⟩:=p.sim.blk c x g;exact⟨o,by rw[a _ (i c pl)];exact y,A⟩
 rw[a j Z];exact p.fr j u s
theorem Sh(B:EnvOk2 X.E X.P){s:St}{w:World}(q:TR ρ s.t nt tm)(F:Sim X ρ s.h w)(C:K9 (3*s.n) s.h)(y:∀i,Nb (3*s.n) (nth s.t i)):∀(c:List ResultVar) (vs:List Value),resE X.E s c=some vs→
  (c.mapM (m:=Sem) fun| .tmp t=>pure (tm.getD t undef)| .cell a t=>do loadVar t (←asAddr (tm.getD a undef))).run X.P w=.ok (vs.map (conc ρ)) w∧∀v∈vs,Nb (3*s.n) v:=by
 intro c;induction c with
 |nil=>intro vs h;simp[resE]at h;subst h;simp
 |cons r c ih=>
  intro vs h;unfold resE at h;cases r with
  |tmp t=>
   simp only at h;split at h
   .rename_i l hl;simp at h;subst h;obtain⟨e,g⟩:=ih l hl;refine⟨?_,fun v b=>?_⟩
    .rw[J7];simp only[EW,GW,Ey];rw[e];have:=q.getD t;simp at this;simp[this]
    rcases DR.1 b with rfl|b
    .exact y t
    exact g v b
   cases h
  |cell a t=>
   simp only at h;split at h
   .rename_i ad had;split at h
    .rename_i v l b hl;simp at h;subst h;obtain⟨e,g⟩:=ih l hl;obtain⟨D,A,_⟩:=mN B.toEnvOk F C b;refine⟨?_,fun u o=>?_⟩
     .have p:=q.getD a;rw[had,Rw]at p;have j:((do loadVar t (←asAddr (tm.getD a undef)):Sem Value)).run X.P w=.ok (conc ρ v) w:=by
       rw[p];simp[asAddr,D]
      rw[J7,EW];simp only;rw[j];simp only[EW,GW,Ey];rw[e];simp
     rcases DR.1 o with rfl|o
     .exact A
     exact g u o
    cases h
   cases h
def pack(vs:List Value):Value:=match vs with|[v]=>v|vs=>.tuple ⟨vs⟩
theorem eK(j:EnvOk2 X.E X.P){s:St}{w:World}(p:TR ρ s.t nt tm)(o:Sim X ρ s.h w)(l:K9 (3*s.n) s.h)(c:∀i,Nb (3*s.n) (nth s.t i))(h:resE X.E s fn.results.toList=some vs):
  (results fn tm).run X.P w=.ok (conc ρ (pack vs)) w∧Nb (3*s.n) (pack vs):=by
 obtain⟨e,b⟩:=Sh j p o l c _ _ h;refine⟨?_,?_⟩
 .have g:(fn.results.mapM (m:=Sem) fun| .tmp t=>pure (tm.getD t undef)| .cell a t=>do loadVar t (←asAddr (tm.getD a undef))).run X.P w=.ok (vs.map (conc ρ)).toArray w:=by
   rw[Jr,am5,e];rfl
  unfold results;rw[EW];refine Eq.trans (congrArg (fun r=>Result.andThen r _) g) ?_;simp only[Ey,GW];match vs with
  |[]=>simp[pack]
  |[v]=>simp[pack]
  |v::u::vs=>simp[pack]
 match vs with
 |[]=>exact Nb.tuple b
 |[v]=>exact b v cA
 |v::u::vs=>exact Nb.tuple b
theorem dF{h:Hp}{R:Ending→World→Prop}
  (l:∀w',Post X ρ0 n0 h0 w0 W ρ undef h n w'→∃v,(results fn tm).run X.P w'=.ok v w'∧R (.returned v) w'):∀(M:List Nat) (w:World),Post X ρ0 n0 h0 w0 W ρ undef h n w→MK w0 M h ρ w→M.Nodup→LeavesInM Gu k X.P fn tm R (gK M) .returning w:=by
 intro M;induction M with
 |nil=>intro w c _ _;exact l w c
 |cons m M ih=>
  intro w c g b;obtain⟨s,u,y⟩:=g m cA;have i:=(JW.1 b).1;refine⟨cA,.inl ⟨m,w.putObj m (.deferred none),rfl,run_takeDeferred s,ih _ (c.turn u y (fun j a=>Gn a) cA rfl rfl rfl) (fun j a=>?_) (JW.1 b).2⟩⟩;obtain⟨o,p,q⟩:=g j BR;refine⟨?_,p,q⟩;rw[Gn (fun e=>i (by rw[←e];exact a))];exact o
theorem Post.forget{h h':Hp}{w:World}{u:Value}(i:Sim X ρ h w)(j:K9 (3*n) h)(p:Post X ρ n h w [] ρ' u h' n' w')(hv:Nb (3*n) v):Post X ρ n h w [] ρ v h n w':=by
 have e:∀b x,h.at b=some x→w'.heap[ρ.b b]?=w.heap[ρ.b b]?:=fun b x a=>by
  obtain⟨o,g,_⟩:=i.blk b x a;exact p.fr _ (Ei.1 g).1 (fun c l=>oU l Ds)
 refine⟨Lc.refl _ _,Dh,⟨fun b x a=>?_,i.inj⟩,j,hv,p.wlt,p.wmem,p.fr,p.size,p.os,p.tape,p.out,fun b a m=>?_,fun _ _ _=>rfl⟩
 .obtain⟨o,g,q⟩:=i.blk b x a;exact⟨o,by rw[e b x a];exact g,q⟩
 obtain⟨x,s⟩:=Eg.1 m;have:=(j b x s).1;omega
theorem fg:∀{vs:List Value},tZ vs=true→∀v∈vs,flat v=true:=by
 intro vs;induction vs with
 |nil=>intro _ v a;cases a
 |cons u vs ih=>
  intro h v a;unfold tZ at h;split at h
  .rcases DR.1 a with rfl|a
   .assumption
   exact ih h v a
  cases h
theorem fh(h:flat v=true):conc ρ v=v:=by
 cases v<;>simp[flat]at h<;>simp
theorem OP(h:flat v=true):Nb N v:=by
 cases v<;>simp[flat]at h<;>(try exact Nb.closed rfl);all_goals simp[Nb]
theorem Si(h:tZ vs=true):Nb N (pack vs):=by
 have b:=fg h;match vs with
 |[]=>exact Nb.tuple fun v a=>oU a Ds
 |[v]=>exact OP (b v cA)
 |v::u::vs=>exact Nb.tuple fun v a=>OP (b v a)
theorem gz(h:tZ vs=true):conc ρ (pack vs)=pack vs:=by
 have a:=fg h;have e:vs.map (conc ρ)=vs:=by
  conv=>rhs;rw[←HS vs]
  exact EQ fun v b=>fh (a v b)
 match vs with
 |[]=>simp[pack]
 |[v]=>exact fh (a v cA)
 |v::u::vs=>
  show conc ρ (.tuple ⟨v::u::vs⟩)=.tuple ⟨v::u::vs⟩;rw[jh];exact congrArg Value.tuple (G2 (by simpa using e))
theorem OQ{reg:Array Oper→Bool}(u:EnvOk2 X.E X.P){s:Cal}{L:Nat}(G:CalOk X s)(hok:∀c,X.ok c↔xM reg c=true)(Z1:∀f fn c,X.E.fn f=some fn→fn.body=some c→xM reg c=true)
  (hD:∀(C:Ctx) ρ0 h0 w0,C.E=X.E→CalOk X C.C→tw X C ρ0 h0 w0 reg)
  {h h':Hp}(a:Md X.E s L f args h n=some (v,h',n',W))(k:Nat)(ρ:Ren)(w:World)(V:Sim X ρ h w)(hn:K9 (3*n) h)(ha:∀x∈args,Nb (3*n) x):
  (callFunc f (args.map (conc ρ)).toArray).run X.P w=.ok (.enter f (args.map (conc ρ)).toArray) w∧
  CallsIn Gu k X.P f (args.map (conc ρ)).toArray w fun e w'=>∃ρ',e=.returned (conc ρ' v)∧Post X ρ n h w W ρ' v h' n' w':=by
 unfold Md at a;split at a
 .rename_i fn hfnE;refine⟨u.ent f fn hfnE _ w,?_⟩;split at a
  .rename_i body hbody;split at a
   .rename_i p;have p:=D5 p;obtain⟨t,a,y⟩:=gh _ _ _ _ _ a;refine callsIn_of_wp_marks (u.get f fn hfnE) hbody trivial ?_;have R:∀j,nth (Tr.mk undef X.E.dT) j=undef:=fun j=>Tr.get_mk undef _ j;have H:Lt X fn.ntmps n ρ h w {t:=t,h:=h,n:=n,w:=[]} {tmps:=(args.map (conc ρ)).toArray++Ha (fn.ntmps-(args.map (conc ρ)).toArray.size) undef,defers:=[]} w:=by
     refine⟨ρ,[],Sg p y,fun i=>?_,Post.refl V hn Nb.undef,rfl,Iw,fun k hk=>oU hk Ds⟩;show Nb _ (nth t i);rw[y];split
     .rename_i hi;have A:i<O args:=Z;have:args.getD (i-0) undef=args[i]:=by simp[Ir,A]
      rw[this];exact ha _ (List.getElem_mem A)
     rw[R];exact Nb.undef
    have K:∀x l,uT {E:=X.E,C:=s,L:=L,round:=none,n0:=n,nt:=fn.ntmps} body {t:=t,h:=h,n:=n,w:=[]}=some (x,l)→(∀q,x≠.exit q)→
      (∀g w',Lt X fn.ntmps n ρ h w l g w'→LeavesInM Gu k X.P fn g.tmps (fun e w'=>∃ρ',e=.returned (conc ρ' v)∧Post X ρ n h w W ρ' v h' n' w') g.defers .returning w')→
      body.wpIn Gu k X.P (bodyPostM Gu k X.P fn fun e w'=>∃ρ',e=.returned (conc ρ' v)∧Post X ρ n h w W ρ' v h' n' w') {tmps:=(args.map (conc ρ)).toArray++Ha (fn.ntmps-(args.map (conc ρ)).toArray.size) undef,defers:=[]} w:=by
     intro x l F T I;refine pI (C:={E:=X.E,C:=s,L:=L,round:=none,n0:=n,nt:=fn.ntmps}) u rfl G hok (hD _ _ _ _ rfl G) body (Z1 f fn body hfnE hbody) _ l x F none k _ w _ (fun _=>rfl) H (fun _ _ _ h=>h) fun g w' m=>?_;cases x with
     |normal=>exact I g w' m
     |ret=>exact I g w' m
     |exit q=>exact oU rfl (T q)
    split at a
    .cases a
    .rename_i x l hexec F;refine K x l F (fun q he=>hexec q (by rw[he])) fun g w' m=>?_;obtain⟨ρ1,M,Z3,S,Z4,B,D,J⟩:=m;rw[B];refine dF (fun a1 b=>?_) M w' Z4 J D;split at a
     .rename_i vs hvs;rw[kX]at a;obtain⟨hr,Z0⟩:=eK u Z3 b.sim b.nb S hvs;refine⟨_,hr,?_⟩;split at a
      .rename_i hpure hw;injection a with a
       injection a with h1 a
       injection a with h2 a
       injection a with h3 h4
       subst h1 h2 h3 h4;have o:tZ vs=true:=by simp at hpure;exact hpure.2
       refine⟨ρ,congrArg Ending.returned ((gz o).trans (gz o).symm),?_⟩;have a0:l.w=[]:=hw;rw[a0]at b;exact Post.forget V hn b (Si o)
      injection a with a
      injection a with h1 a
      injection a with h2 a
      injection a with h3 h4
      subst h1 h2 h3 h4;exact⟨ρ1,rfl,b.wv Z0⟩
     cases a
    cases a
   cases a
  cases a
 cases a
end
end
section
variable {ρ:Ren}
section
variable {X:Rel}{ρ0:Ren}{h0:Hp}
theorem Post.put{h h':Hp}{w:World}{x y:Blk}{o:Obj}(p:Post X ρ0 n0 h0 w0 W ρ v h n w)(u:b<3*n0)(A:(h0.at b).isSome)(m:h.at b=some x)(j:∀c,h'.at c=if c=b then some y else h.at c)
  (K:oR X ρ b y o)(L:Me (3*n) y):Post X ρ0 n0 h0 w0 (b::W) ρ v h' n (w.putObj (ρ.b b) o):=by
 have g:∀c,(h'.at c).isSome→(h.at c).isSome:=fun c a=>by
  rw[j]at a;split at a
  .rename_i e;subst e;rw[m];rfl
  exact a
 have C:(h.at b).isSome:=by rw[m];rfl
 obtain⟨Z1,F,_⟩:=p.sim.blk b x m;have D:=(Ei.1 F).1;refine⟨p.agr,p.le,⟨fun c z a=>?_,fun c s q B f=>p.sim.inj c s (g c q) (g s B) f⟩,fun c z a=>?_,p.val,fun c a=>?_,fun c a=>?_,fun k J i=>?_,by simpa using p.size,p.os,p.tape,p.out,fun c a q=>?_,fun c a i=>?_⟩
 .rw[j]at a;split at a
  .rename_i e;subst e;injection a with a
   subst a;exact⟨o,by rw[World.putObj_heap_same D],K⟩
  rename_i hne;obtain⟨M,G,H⟩:=p.sim.blk c z a;refine⟨M,?_,H⟩;rw[Gn (fun f=>hne (p.sim.inj c b (by rw[a];rfl) C (by first|exact f|exact f.symm)))];exact G
 .rw[j]at a;split at a
  .rename_i e;injection a with a
   subst e a;exact⟨(p.nb _ _ m).1,L⟩
  exact p.nb c z a
 .rcases DR.1 a with rfl|a
  .exact u
  exact p.wlt c a
 .rcases DR.1 a with rfl|a
  .exact A
  exact p.wmem c a
 .rw[Gn (fun f=>i b cA (by rw[←(p.agr b u).1];first|exact f|exact f.symm))];exact p.fr k J fun c a=>i c BR
 .exact(p.new c a (g c q)).imp id fun⟨d,I,f⟩=>⟨d,by simp[I],f⟩
 rw[j,CT (fun e=>i (by simp[e]))];exact p.old c a fun h=>i (by simp[h])
theorem Sj{k:Tr Value→Option β}{r:β}:∀(f:List Tmp) (c:List Value) (t:Tr Value) (tm:Array Value),uG.setPs nt f c t k=some r→TR ρ t nt tm→(∀i,Nb N (nth t i))→(∀x∈c,Nb N x)→
  ∃a,k a=some r∧TR ρ a nt ((f.zip (c.map (conc ρ))).foldl (fun tmps (q:Tmp×Value)=>tmps.setIfInBounds q.1 q.2) tm)∧∀i,Nb N (nth a i):=by
 intro f;induction f with
 |nil=>intro c t tm h d j s;unfold uG.setPs at h;exact⟨t,h,Aw,j⟩
 |cons p f ih=>
  intro c t tm h d j s;cases c with
  |nil=>unfold uG.setPs at h;exact⟨t,h,Aw,j⟩
  |cons v c=>
   unfold uG.setPs at h;split at h
   .cases h
   rename_i o;obtain⟨a,h,m⟩:=Tr.set_some undef _ _ _ _ _ h;have o:¬nt≤p:=fun w=>by rw[Dv w]at o;cases o
   refine ih c a (tm.setIfInBounds p (conc ρ v)) h ?_ (fun i=>?_) (fun x y=>s x (by simp[y]))
   .refine⟨by simpa using d.size,fun i g=>?_,fun i g=>?_⟩
    .show _=some (conc ρ (a.get undef i));rw[m];have:=d.at_ i g;split
     .rename_i e;subst e;simp[d.size,g]
     rename_i e;rw[Hw (fun u=>e u.symm)];exact this
    show a.get undef i=undef;rw[m,CT Z];exact d.past i g
   show Nb N (a.get undef i);rw[m];split
   .exact s v cA
   exact j i
theorem mC{reg:Array Oper→Bool}(hE:EnvOk2 X.E X.P){Cl:Cal}{L:Nat}(hC:CalOk X Cl)(hok:∀c,X.ok c↔xM reg c=true)
  (hD:∀(C:Ctx) ρ0 h0 w0,C.E=X.E→CalOk X C.C→tw X C ρ0 h0 w0 reg)
  {h h':Hp}(i:uG X.E Cl L l args h n=some (v,h',n',W))(k:Nat)(ρ:Ren)(w:World)(hs:Sim X ρ h w)(hn:K9 (3*n) h)(ha:∀x∈args,Nb (3*n) x):
  ∃f Z4 assign body,(ad7 (ρ.b l) (args.map (conc ρ)).toArray).run X.P w=.ok (.round (ρ.b l) f Z4 assign body) w∧
   RoundIn Gu k X.P (ρ.b l) f Z4 assign body w fun e s=>∃ρ',e=.returned (conc ρ' v)∧Post X ρ n h w W ρ' v h' n' s:=by
 unfold uG at i;split at i
 .rename_i t0 nt0 ps0 assign0 body0 d0 hl;split at i
  .rename_i G;have G:=Eb G;obtain⟨o,ho,F,Z4,rfl,aj,a9,aa⟩:=hs.blk _ _ hl;have u:=hn _ _ hl;obtain⟨t1,i,ai,ah⟩:=Sj (ρ:=ρ) (N:=3*n) ps0 args t0 Z4 i aj u.2.1 ha;split at i
   .rename_i s1 hex1;split at i
    .rename_i t nt ps assign body d hl1;obtain⟨t2,i,a4⟩:=Tr.set_some none _ _ _ _ _ i;split at i
     .rename_i x s2 hex2;split at i
      .rename_i r' p' t' nt' ps' as' bd' d' hl2;have af:Lt X nt0 n ρ h w {t:=t1,h:=h,n:=n,w:=[]} {tmps:=(ps0.zip (args.map (conc ρ))).foldl (fun tmps (q:Tmp×Value)=>tmps.setIfInBounds q.1 q.2) Z4,defers:=[]} w:=
        ⟨ρ,[],ai,ah,Post.refl hs hn Nb.undef,rfl,Iw,fun k hk=>oU hk Ds⟩
       refine⟨F,(ps0.zip (args.map (conc ρ))).foldl (fun tmps (q:Tmp×Value)=>tmps.setIfInBounds q.1 q.2) Z4,assign0,body0,?_,roundIn_of_wpIn trivial ?_⟩
       .rw[run_yield ho (by simp[G])];congr 2;simp[←Ku]
       refine pI (C:={E:=X.E,C:=Cl,L:=L,round:=some l,n0:=n,nt:=nt0}) hE rfl hC hok (hD _ _ _ _ rfl hC) assign0 ((hok _).1 a9) _ s1 .normal hex1 (some (ρ.b l)) k _ w _ (fun e=>by cases e) af (fun _ _ _ h=>h) fun a1 w1 V=>?_;obtain⟨ρ1,M1,ae,a8,S,a6,a7,ag⟩:=V;obtain⟨o1,a5,M,T,rfl,ad,ab,ac⟩:=S.sim.blk _ _ hl1;have a3:ρ1.b l=ρ.b l:=(S.agr l u.1).1;have a0:=S.put (y:=.loop false none t nt ps assign body d) (o:=.loop {state:=.busy,pending:=none,fn:=M,tmps:=T,params:=ps.toArray,assign:=assign,body:=body,defers:=ρ1.b d}) u.1 (by rw[hl];rfl) hl1 a4 ⟨M,T,rfl,ad,ab,ac⟩ (S.nb _ _ hl1).2;rw[a3]at a5 a0;refine⟨_,run_beginRound a5 rfl,?_⟩;have V:Lt X nt0 n ρ h w {s1 with h:=t2,w:=l::s1.w} a1 (w1.putObj (ρ.b l) (.loop {state:=.busy,pending:=none,fn:=M,tmps:=T,params:=ps.toArray,assign:=assign,body:=body,defers:=ρ1.b d})):=by
        refine⟨ρ1,M1,ae,a8,a0,a6,a7,fun j hj=>?_⟩;obtain⟨j1,j2,j3⟩:=ag j hj;refine⟨?_,j2,fun c Z0=>?_⟩
        .rw[Gn (fun e=>j3 l (by rw[hl1];rfl) (by rw[a3];first|exact e|exact e.symm))];exact j1
        apply j3;have Z0:(Hp.at t2 c).isSome:=Z0;rw[show Hp.at t2 c=_ from a4 c]at Z0;split at Z0
        .rename_i e;subst e;rw[hl1];rfl
        exact Z0
       have hw:∀(hQ:∀a' s,Lt X nt0 n ρ h w s2 a' s→roundPost X.P (ρ.b l) (fun e s=>∃ρ',e=.returned (conc ρ' v)∧Post X ρ n h w W ρ' v h' n' s) (exOf x) a' s),
         body0.wpIn (Wd (some (ρ.b l))) k X.P (roundPost X.P (ρ.b l) fun e s=>∃ρ',e=.returned (conc ρ' v)∧Post X ρ n h w W ρ' v h' n' s) a1 (w1.putObj (ρ.b l) (.loop {state:=.busy,pending:=none,fn:=M,tmps:=T,params:=ps.toArray,assign:=assign,body:=body,defers:=ρ1.b d})):=fun hQ=>by
        refine wpIn_mono (Q:=fun e a s=>(∀g,e≠.goto g)∧roundPost X.P (ρ.b l) (fun e s=>∃ρ',e=.returned (conc ρ' v)∧Post X ρ n h w W ρ' v h' n' s) e a s) ?_ fun _ _ _ hq=>hq.2;exact pI (C:={E:=X.E,C:=Cl,L:=L,round:=some l,n0:=n,nt:=nt0}) hE rfl hC hok (hD _ _ _ _ rfl hC) body0 ((hok _).1 aa) _ s2 x hex2 (some (ρ.b l)) k _ _ _ (fun e=>by cases e) V (fun g _ _ hq=>hq.1 g rfl) fun a2 w2 Z3=>⟨fun g=>by cases x<;>simp[exOf],hQ a2 w2 Z3⟩
       refine hw fun a2 w2 Z3=>?_;obtain⟨K,M2,an,am,m,ak,al,ao⟩:=Z3;obtain⟨o2,R,A,B,rfl,J,H,I⟩:=m.sim.blk _ _ hl2;have Z1:K.b l=ρ.b l:=(m.agr l u.1).1;rw[Z1]at R;cases x with
       |normal=>
        obtain⟨t3,i,D⟩:=Tr.set_some none _ _ _ _ _ i;simp at i;obtain⟨rfl,rfl,rfl,rfl⟩:=i;have p:=(m.wv (v':=Dk true) Nb.bool).put (y:=.loop true none t' nt' ps' as' bd' d') (o:=.loop {state:=.ready,pending:=none,fn:=A,tmps:=B,params:=ps'.toArray,assign:=as',body:=bd',defers:=K.b d'}) u.1 (by rw[hl];rfl) hl2 D ⟨A,B,rfl,J,H,I⟩ (m.nb _ _ hl2).2;rw[Z1]at p;exact⟨_,_,run_endRound none R,K,cA,p⟩
       |ret=>
        obtain⟨t3,i,D⟩:=Tr.set_some none _ _ _ _ _ i;simp at i;obtain⟨rfl,rfl,rfl,rfl⟩:=i;have p:=(m.wv (v':=Dk false) Nb.bool).put (y:=.loop false (some .ret) t' nt' ps' as' bd' d') (o:=.loop {state:=.done,pending:=some .ret,fn:=A,tmps:=B,params:=ps'.toArray,assign:=as',body:=bd',defers:=K.b d'}) u.1 (by rw[hl];rfl) hl2 D ⟨A,B,rfl,J,H,I⟩ (m.nb _ _ hl2).2;rw[Z1]at p;exact⟨_,_,run_endRound (some .ret) R,K,cA,p⟩
       |exit id=>
        obtain⟨t3,i,D⟩:=Tr.set_some none _ _ _ _ _ i;simp at i;obtain⟨rfl,rfl,rfl,rfl⟩:=i;have p:=(m.wv (v':=Dk false) Nb.bool).put (y:=.loop false (some (.exit id)) t' nt' ps' as' bd' d') (o:=.loop {state:=.done,pending:=some (.exit id),fn:=A,tmps:=B,params:=ps'.toArray,assign:=as',body:=bd',defers:=K.b d'}) u.1 (by rw[hl];rfl) hl2 D ⟨A,B,rfl,J,H,I⟩ (m.nb _ _ hl2).2;rw[Z1]at p;exact⟨_,_,run_endRound (some (.exit id)) R,K,cA,p⟩
      cases i
     cases i
    cases i
   cases i
  cases i
 cases i
theorem Sk{reg:Array Oper→Bool}(o:EnvOk2 X.E X.P)(L:Nat)(hok:∀c,X.ok c↔xM reg c=true)(p:∀f fn c,X.E.fn f=some fn→fn.body=some c→xM reg c=true)
  (m:∀(C:Ctx) ρ0 h0 w0,C.E=X.E→CalOk X C.C→tw X C ρ0 h0 w0 reg):∀d,CalOk X (calN X.E L d):=by
 intro d;induction d with
 |zero=>exact⟨fun f args h n v e n' W a=>(by cases a),fun l args h n v e n' W a=>(by cases a)⟩
 |succ d ih=>exact⟨fun f args h n v e n' W a k ρ w j i g=>OQ o ih hok p m a k ρ w j i g,fun l args h n v e n' W a k ρ w j i g=>mC o ih hok m a k ρ w j i g⟩
end
end
section
variable {ρ ρ':Ren}
section
variable {E:Env}
theorem gv{l:Array (Nat×Operand)}(h:∀x∈(l.toList.map (·.2)).toArray,g x=g' x):LO g l=LO g' l:=by
 unfold LO;refine EQ fun p a=>?_;rw[h p.2 (by simp;exact⟨p.1,by simpa using a⟩)]
theorem db{o:Op}(h:∀x∈o.operands,g x=g' x):yJ E o g=yJ E o g':=by
 cases o with
 |build t l=>simp only[yJ];rw[gv (by simpa [GN]using h)]
 |makeFunc f a b=>
  simp only[GN,Array.mem_append]at h;have d:a.map g=a.map g':=J9 fun x e=>h x (.inl e);have i:b.map g=b.map g':=J9 fun x e=>h x (.inr e);cases f<;>simp[yJ,d,i]
 |slice t x lo hi m=>
  simp only[GN]at h;have d:=h x cA;have i:lo.map g=lo.map g':=by cases lo<;>simp;exact h _ cA
  have j:hi.map g=hi.map g':=by cases hi<;>simp;exact h _ cA
  have p:m.map g=m.map g':=by cases m<;>simp;exact h _ cA
  cases m<;>cases lo<;>cases hi<;>simp at i j p<;>simp[yJ,d,i,j,p]
 |call c=>
  simp only[GN,ah8]at h;have d:c.args.toList.map g=c.args.toList.map g':=EQ fun x e=>h x (by simp;exact .inr (by simpa using e));simp only[yJ,d]
 |_=>first|rfl|(simp[GN]at h;simp[yJ,h])
theorem Sm{o:Op}(h:∀x∈o.operands,g x=g' x):KX E o g=KX E o g':=by
 cases o with
 |buildSlice t n l=>simp only[KX];rw[gv (by simpa [GN]using h)]
 |_=>first|rfl|(simp[GN]at h;simp[KX,h])
theorem tU{o:Op}{h h':Hp}(d:∀x∈o.operands,g x=g' x)(c:tW E o g h=some (v,b))(e:h'.at b=h.at b):tW E o g' h'=some (v,b):=by
 cases o with
 |load t a=>
  simp[GN]at d;unfold tW at c⊢;simp only at c⊢;rw[←d];split at c
  .rename_i ad ha;split at c
   .rename_i u hu;simp at c;obtain⟨rfl,rfl⟩:=c;have:mO E t h' ad=mO E t h ad:=by
     unfold mO kl;rw[e]
    rw[this,hu]
   cases c
  cases c
 |_=>cases c
theorem Sn{o:Op}{h:Hp}(d:∀x∈o.operands,g x=g' x):effE E o g h n=effE E o g' h n:=by
 cases o with
 |store t a x=>simp[GN]at d;simp[effE,d]
 |call c=>
  simp only[GN,ah8]at d;have e:c.args.toList.map g=c.args.toList.map g':=EQ fun x i=>d x (by simp;exact .inr (by simpa using i));simp only[effE,e];unfold pQ;split
  .rfl
  .rfl
  .rename_i f hf;rw[d f (by rw[hf];simp)]
  rfl
 |_=>rfl
noncomputable def only(o:Oper)(g:Operand→Value):Operand→Value:=fun x=>open Classical in if x∈o.op.operands then g x else undef
theorem mI(h:x∈o.op.operands):g x=only o g x:=by simp[only,h]
theorem mH(h:∀x∈o.op.operands,Nb m (g x))(x:Operand):Nb m (only o g x):=by
 unfold only;split
 .exact h x nN
 exact Nb.undef
theorem uw(c:yu o=true){a:Act}(h:∀x∈o.op.operands,a.eval x=conc ρ (g x)):execOp a.eval o=execOp (fun x=>conc ρ (only o g x)) o:=by
 unfold yu at c;simp at c;refine execOp_congr o (fun f b e=>?_) (fun x d=>?_)
 .rw[e]at c;simp at c
 rw[h x d,mI (g:=g) d]
theorem OS(q:∀e sz bt z,E.inf e=some (sz,bt,z)→closed z=true){o:Op}{m:Mk}(f:KX E o g=some m):∀v∈m.c,(∀ρ,conc ρ v=v)∨∃x∈o.operands,v∈zr (g x):=by
 intro v i;cases o with
 |alloc e=>
  simp only[KX]at f;split at f
  .rename_i hz;simp at f;subst f;exact .inl fun ρ=>tu (q _ _ _ _ hz) ρ v i
  cases f
 |box e x=>
  simp only[KX]at f;simp at f;subst f;exact .inr ⟨x,by simp[GN],i⟩
 |buildSlice t len l=>
  simp only[KX]at f;unfold qD at f;split at f
  .split at f
   .rename_i hz;split at f
    .split at f
     .rename_i cs hcs;simp at f;subst f;rcases fi hcs v i with j|⟨p,u,j⟩
      .exact .inl fun ρ=>tu (q _ _ _ _ hz) ρ v (pr j)
      simp[LO]at u;obtain⟨a,b,s,rfl⟩:=u;exact .inr ⟨b,by simp[GN];exact⟨a,by simpa using s⟩,j⟩
     cases f
    cases f
   cases f
  cases f
 |makeSlice t l c=>
  simp only[KX]at f;unfold rM at f;split at f
  .split at f
   .rename_i hz;split at f
    .simp at f;subst f;exact .inl fun ρ=>tu (q _ _ _ _ hz) ρ v (pr i)
    cases f
   cases f
  cases f
 |convert t d x=>
  simp only[KX]at f;unfold uV at f;split at f
  .split at f
   .simp at f;subst f;simp at i;obtain⟨b,_,rfl⟩:=i;exact .inl fun ρ=>by simp
   cases f
  cases f
 |_=>cases f
end
theorem Tr.single(d v:α):∀b:Nat,∃t:Tr α,∀c,Tr.get d t c=if c=b then v else d:=by
 intro b;induction b using Hb with
 |ind b ih=>
  cases b with
  |zero=>
   refine⟨.nd .lf v .lf,fun c=>?_⟩;cases c with
   |zero=>rfl
   |succ c=>rw[Tr.get_succ];simp[Tr.get_lf]
  |succ b=>
   obtain⟨t,a⟩:=ih (b/2) Z;by_cases hb:b%2=0
   .refine⟨.nd t d .lf,fun c=>?_⟩;cases c with
    |zero=>rw[Tr.get_zero];simp
    |succ c=>
     rw[Tr.get_succ,a,Tr.get_lf];by_cases hc:c%2=0
     .by_cases e:c=b
      .subst e;simp[hc]
      have:¬c/2=b/2:=Z;simp[hc,e,this]
     have:¬c=b:=by rintro rfl;exact hc hb
     simp[hc,this]
   refine⟨.nd .lf d t,fun c=>?_⟩;cases c with
   |zero=>rw[Tr.get_zero];simp
   |succ c=>
    rw[Tr.get_succ,a,Tr.get_lf];by_cases hc:c%2=0
    .have:¬c=b:=by rintro rfl;exact hb hc
     simp[hc,this]
    by_cases e:c=b
    .subst e;simp[hc]
    have:¬c/2=b/2:=Z;simp[hc,e,this]
section
variable {X:Rel}{ρ0:Ren}{h0:Hp}
theorem Post.agr2{h:Hp}{w:World}(p:Post X ρ0 n0 h0 w0 W ρ v h n w)(a:Lc (3*n) ρ ρ'):Post X ρ0 n0 h0 w0 W ρ' v h n w:=by
 have e:∀c,(h.at c).isSome→c<3*n:=fun c u=>by
  obtain⟨x,B⟩:=Eg.1 u;exact(p.nb c x B).1
 refine⟨p.agr.trans a (by have:=p.le;omega),p.le,⟨fun b x f=>?_,fun b l d j s=>?_⟩,p.nb,p.val,p.wlt,p.wmem,p.fr,p.size,p.os,p.tape,p.out,fun b f d=>?_,p.old⟩
 .obtain⟨o,y,A⟩:=p.sim.blk b x f;obtain⟨i,q⟩:=p.nb b x f;exact⟨o,by rw[(a b i).1];exact y,A.agr q i a⟩
 .rw[(a b (e b d)).1,(a l (e l j)).1]at s;exact p.sim.inj b l d j s
 rw[(a b (e b d)).1];exact p.new b f d
theorem Post.add{h h':Hp}{w:World}{y:Blk}{o:Obj}(p:Post X ρ0 n0 h0 w0 W ρ v h n w)(J:3*n≤b)(A:b<3*(n+1))(j:∀c,h'.at c=if c=b then some y else h.at c)
  (F:w.heap[ρ.b b]?=some o)(G:oR X ρ b y o)(H:Me (3*n) y)(u:w0.heap.size≤ρ.b b)(q:∀c,(h.at c).isSome→ρ.b c≠ρ.b b):Post X ρ0 n0 h0 w0 W ρ v h' (n+1) w:=by
 have d:∀c,c≠b→(h'.at c).isSome→(h.at c).isSome:=fun c B a=>by
  rw[j,CT B]at a;exact a
 refine⟨p.agr,by have:=p.le;omega,⟨fun c z a=>?_,fun c f l s i=>?_⟩,fun c z a=>?_,p.val.mono Z,p.wlt,p.wmem,p.fr,p.size,p.os,p.tape,p.out,fun c a l=>?_,fun c a D=>?_⟩
 .rw[j]at a;split at a
  .rename_i e;injection a with a
   subst e a;exact⟨o,F,G⟩
  exact p.sim.blk c z a
 .by_cases e:c=b
  .by_cases e':f=b
   .rw[e,e']
   rw[e]at i;exact oU i.symm (q f (d f e' s))
  by_cases e':f=b
  .rw[e']at i;exact oU i (q c (d c e l))
  exact p.sim.inj c f (d c e l) (d f e' s) i
 .rw[j]at a;split at a
  .rename_i e;injection a with a
   subst e a;exact⟨A,H.mono Z⟩
  obtain⟨I,C⟩:=p.nb c z a;exact⟨Z,C.mono Z⟩
 .by_cases e:c=b
  .rw[e];exact .inl u
  exact p.new c a (d c e l)
 rw[j,CT (by have:=p.le;omega)];exact p.old c a D
def OU(X:Rel)(s:St)(o:Oper)(v:Value)(h1:Hp)(n1:Nat)(W:List Nat):Prop:=
 ∀(ro:Option Nat) (kk:Nat) (a:Act) (w:World) (ρ:Ren),(∀x∈o.op.operands,a.eval x=conc ρ (ev s.t x))→(∀x∈o.op.operands,Nb (3*s.n) (ev s.t x))→Sim X ρ s.h w→K9 (3*s.n) s.h→
  ∀(K:Act→World→Prop) (Q:Exit→Act→World→Prop),(∀ρ' w',Post X ρ s.n s.h w W ρ' v h1 n1 w'→K (a.put o.dst (conc ρ' v)) w')→o.wpIn (Wd ro) kk X.P a w K Q
theorem So{C:Ctx}(V:EnvOk2 X.E X.P)(Z3:C.E=X.E)(T:CalOk X C.C){s:St}(p:yu o=true){k:St→List Nat→Option β}{r:β}(j:effK C s o k=some r):
  ∃v h1 n1 W,done C s o.dst v h1 n1 W (fun s=>k s W)=some r∧OU X s o v h1 n1 W:=by
 unfold effK at j;rw[Z3,Sn (g':=only o (ev s.t)) (fun x M=>mI M)]at j;split at j
 .rename_i v h1 n1 W hv;refine⟨v,h1,n1,W,j,fun N A a w ρ u I L y K Q F=>?_⟩;obtain⟨ρ',B,nx,J,Z4,d⟩:=OL (ρ:=ρ) (w:=w) V L y (mH I) hv;exact tD p (by rw[uw p u];exact J) Z4 (F _ _ d)
 .rename_i f args hv;split at j
  .rename_i v h1 n1 W hcall;refine⟨v,h1,n1,W,j,fun N A a w ρ u I L y K Q F=>?_⟩;obtain⟨M,q⟩:=OO (ρ:=ρ) (P:=X.P) hv;obtain⟨J,i⟩:=T.call _ _ _ _ _ _ _ _ hcall (A-1) ρ w L y (q _ (mH I));refine⟨fun _ _=>trivial,?_⟩;rw[IY _ _ _ (fun c R=>by unfold yu at p;rw[R]at p;simp at p),uw p u,M w,J];refine⟨fun S=>by simp[Wd,Gu]at S,?_⟩;have G:CallsIn (Wd N) (A-1) X.P f (args.map (conc ρ)).toArray w fun e B=>∃ρ',e=.returned (conc ρ' v)∧Post X ρ s.n s.h w W ρ' v h1 n1 B:=i;exact CS
  cases j
 .rename_i l args hv;split at j
  .rename_i v h1 n1 W hcall;refine⟨v,h1,n1,W,j,fun N A a w ρ u I L y K Q F=>?_⟩;obtain⟨M,q⟩:=fj (ρ:=ρ) (P:=X.P) hv;obtain⟨f,Z0,D,Z1,J,i⟩:=T.yl _ _ _ _ _ _ _ _ hcall (A-1) ρ w L y (q _ (mH I));refine⟨fun _ _=>trivial,?_⟩;rw[IY _ _ _ (fun c R=>by unfold yu at p;rw[R]at p;simp at p),uw p u,M w,J];refine⟨fun S=>by simp[Wd,Gu]at S,?_⟩;have G:RoundIn (Wd N) (A-1) X.P (ρ.b l) f Z0 D Z1 w fun e B=>∃ρ',e=.returned (conc ρ' v)∧Post X ρ s.n s.h w W ρ' v h1 n1 B:=i;exact CS
  cases j
 cases j
theorem ri{C:Ctx}{s:St}{d:Option Tmp}{h':Hp}{k:St→Option β}{r:β}(a:done C s d v h' n' W k=some r):
  ∃c,k {t:=c,h:=h',n:=n',w:=addW C.n0 W s.w}=some r∧(∀j,nth c j=if d=some j then v else nth s.t j)∧∀i,d=some i→i<C.nt:=by
 unfold done at a;rw[pa]at a;unfold putK at a;cases d with
 |some i=>
  simp only at a;split at a
  .cases a
  rename_i hb;have l:i<C.nt:=by
   apply Gm;intro q;rw[Dv q]at hb;cases hb
  obtain⟨c,f,u⟩:=Tr.set_some undef _ _ _ _ _ a;rw[wb]at f;refine⟨c,f,fun j=>?_,fun j p=>by injection p with p;subst p;exact l⟩;show Tr.get undef c j=_;rw[u];by_cases e:j=i
  .subst e;simp
  rw[CT e,CT (by simp;exact fun h=>e h.symm)]
 |none=>
  simp only[wb]at a;exact⟨s.t,a,fun j=>by simp,fun i l=>by cases l⟩
end
end
structure Quiet (d d':Dr):Prop where
 h:d'.s.h=d.s.h
 n:d'.s.n=d.s.n
 w:d'.s.w=d.s.w
 al:d'.al=d.al
 ef:d'.ef=d.ef
inductive Stp (X:Rel) (C:Ctx) (ops:List Oper) (i m:Nat) (o:Oper) (d d':Dr) (v:Value):Prop
 |skip (hw:uo ops d.s.t o=false) (hv:v=undef) (hs:Quiet d d') (hl:d'.ld=d.ld)
 |pure (hw:uo ops d.s.t o=true) (hc2:KS o.op≠2) (hc3:KS o.op≠3) (hp:yJ C.E o.op (ev d.s.t)=some v) (hs:Quiet d d') (hl:d'.ld=d.ld)
 |load (hw:uo ops d.s.t o=true) (hc:KS o.op=1) (u b:Nat) (h:Hp) (hr:tf m d.ef i d.s.h=(u,h)) (hp:tW C.E o.op (ev d.s.t) h=some (v,b)) (h1:ot u b d.ef=true) (h2:pz m b d.al=true) (hs:Quiet d d') (hl:d'.ld=(i,b)::d.ld)
 |make (hw:uo ops d.s.t o=true) (hc:KS o.op=2) (k:Mk) (hm:KX C.E o.op (ev d.s.t)=some k) (hv:v=k.val d.s.n) (hh:∀c,d'.s.h.at c=if c=k.name d.s.n then some (.row k.c k.e)else d.s.h.at c)
   (hn:d'.s.n=d.s.n+1) (hW:d'.s.w=d.s.w) (ha:d'.al=(i,k.name d.s.n)::d.al) (hl:d'.ld=d.ld) (he:d'.ef=d.ef)
 |eff (hw:uo ops d.s.t o=true) (hc:KS o.op=3) (W:List Nat) (hE:OU X d.s o v d'.s.h d'.s.n W) (h1:fP m d.ef=true) (h2:xW m d.al=true) (h3:yd m W d.ld=true) (h4:d.s.n≤d'.s.n)
   (hW:d'.s.w=addW C.n0 W d.s.w) (ha:d'.al=d.al) (hl:d'.ld=d.ld) (he:d'.ef=(i,d.s.h,W)::d.ef)
structure StT (C:Ctx)(o:Oper)(d d':Dr)(v:Value):Prop where
 t:∀j,nth d'.s.t j=if o.dst=some j then v else nth d.s.t j
 lt:∀k,o.dst=some k→k<C.nt
section
variable {X:Rel}{C:Ctx}
theorem Sp(y:EnvOk2 X.E X.P)(A:C.E=X.E)(w:CalOk X C.C){ops:List Oper}(B:yu o=true){d:Dr}(f:uo ops d.s.t o=true){k:Dr→Option β}{r:β}(a:MN C i m o d k=some r):
  ∃d' v,k d'=some r∧Stp X C ops i m o d d' v∧StT C o d d' v:=by
 unfold MN at a;split at a
 .rename_i hc;generalize hr:tf m d.ef i d.s.h=uh at a;obtain⟨u,h⟩:=uh;simp only at a;split at a
  .rename_i v b hl;split at a
   .rename_i hok;simp only[Ew]at hok;obtain⟨p,a,e,c⟩:=ri a;exact⟨_,v,a,.load f hc u b h hr hl hok.1 hok.2 ⟨rfl,rfl,rfl,rfl,rfl⟩ rfl,⟨e,c⟩⟩
   cases a
  cases a
 .rename_i hc;split at a
  .rename_i mk hm;unfold Mc at a;rw[wT]at a;obtain⟨q,a,l⟩:=Tr.set_some none _ _ _ _ _ a;obtain⟨p,a,e,c⟩:=ri a;exact⟨_,_,a,.make f hc mk hm rfl l rfl rfl rfl rfl rfl,⟨e,c⟩⟩
  cases a
 .rename_i hc;split at a
  .rename_i hok;simp only[Ew]at hok;obtain⟨v,q,D,W,a,g⟩:=So y A w B a;obtain⟨p,a,e,c⟩:=ri a;simp only at a;split at a
   .rename_i hok2;simp only[Ew]at hok2;exact⟨_,v,a,.eff f hc W g hok.1 hok.2 hok2.1 (D5 hok2.2) rfl rfl rfl rfl,⟨e,c⟩⟩
   cases a
  cases a
 rename_i q h2 h3;split at a
 .rename_i v hp;obtain⟨p,a,e,c⟩:=ri a;exact⟨_,v,a,.pure f h2 h3 hp ⟨rfl,rfl,rfl,rfl,rfl⟩ rfl,⟨e,c⟩⟩
 cases a
theorem Sq(K:EnvOk2 X.E X.P)(L:C.E=X.E)(J:CalOk X C.C){ops:List Oper}:∀(l:List Oper) (ms:List Nat) (i:Nat) (d:Dr) (s':St),(∀o∈l,yu o=true)→vp C ops l ms i d=some s'→
  ∃(D:Nat→Dr) (V:Nat→Value),D 0=d∧(D (O l)).s=s'∧∀j (c:j<O l),∃m,ms[j]?=some m∧Stp X C ops (i+j) m l[j] (D j) (D (j+1)) (V j)∧StT C l[j] (D j) (D (j+1)) (V j):=by
 intro l;induction l with
 |nil=>
  intro ms i d s' _ h;unfold vp at h;injection h with h
  exact⟨fun _=>d,fun _=>undef,rfl,h,fun j c=>by simp at c⟩
 |cons o l ih=>
  intro ms i d s' y h;cases ms with
  |nil=>cases h
  |cons m ms=>
   have B:∃a v,vp C ops l ms (i+1) a=some s'∧Stp X C ops i m o d a v∧StT C o d a v:=by
    unfold vp at h;split at h
    .rename_i hw;exact Sp K L J (y o cA) hw h
    rename_i hw;obtain⟨R,f,N,p⟩:=ri h;exact⟨_,undef,f,.skip hw rfl ⟨rfl,rfl,rfl,rfl,rfl⟩ rfl,⟨N,p⟩⟩
   obtain⟨a,v,f,F,G⟩:=B;obtain⟨D,V,e,g,A⟩:=ih ms (i+1) a s' (fun q M=>y q (by simp[M])) f;refine⟨fun|0=>d|j+1=>D j,fun|0=>v|j+1=>V j,rfl,g,fun j c=>?_⟩;cases j with
   |zero=>exact⟨m,rfl,by simpa [e]using F,by simpa [e]using G⟩
   |succ j=>
    obtain⟨Z1,w,H,I⟩:=A j (by simpa using c);refine⟨Z1,by simpa using w,?_,by simpa using I⟩;have:i+(j+1)=i+1+j:=Z;rw[this];simpa using H
end
theorem aG:∀{W:List Nat},memN b W=false→b∉W:=by
 intro W;induction W with
 |nil=>intro _ h;cases h
 |cons c W ih=>
  intro h a;unfold memN at h;split at h
  .cases h
  rename_i hc;rcases DR.1 a with rfl|a
  .exact HD hc rfl
  exact ih h a
theorem df:∀{l:List (Nat×Nat)},yd m W l=true→∀i b,(i,b)∈l→m.testBit i=true∨b∉W:=by
 intro l;induction l with
 |nil=>intro _ i b h;cases h
 |cons p l ih=>
  intro h i b a;obtain⟨j,c⟩:=p;unfold yd at h;split at h
  .rename_i hc;rcases DR.1 a with e|a
   .injection e with e1 e2
    subst e1 e2;simp only[Im,FY]at hc;exact hc.imp id aG
   exact ih h i b a
  cases h
theorem Sr:∀{l:List (Nat×Nat)},pz m b l=true→∀j c,(j,c)∈l→m.testBit j=true∨b≠c:=by
 intro l;induction l with
 |nil=>intro _ i b h;cases h
 |cons p l ih=>
  intro h i c a;obtain⟨j,d⟩:=p;unfold pz at h;split at h
  .rename_i hc;rcases DR.1 a with e|a
   .injection e with e1 e2
    subst e1 e2;simp only[Im,FY]at hc;exact hc.imp id HD
   exact ih h i c a
  cases h
theorem Ss:∀{l:List (Nat×Hp×List Nat)},ot u b l=true→∀e g W,(e,g,W)∈l→u≤e→b∉W:=by
 intro l;induction l with
 |nil=>intro _ e g W h;cases h
 |cons p l ih=>
  intro h e g W c d;obtain⟨s,v,f⟩:=p;unfold ot at h;split at h
  .rename_i a;rcases DR.1 c with q|c
   .injection q with e1 q
    injection q with e2 e3
    subst e1 e2 e3;simp only[Im,FY]at a;rcases a with a|a
    .exact oU (D5 a) Z
    exact aG a
   exact ih h e g W c d
  cases h
theorem eM:∀(l:List (Nat×Hp×List Nat)) (u0:Nat) (g0:Hp) (u:Nat) (g:Hp),tf m l u0 g0=(u,g)→l.Pairwise (fun x y=>y.1<x.1)→
  (∀x∈l,x.1<u→m.testBit x.1=true)∧((u=u0∧g=g0)∨∃W,(u,g,W)∈l):=by
 intro l;induction l with
 |nil=>
  intro u0 g0 u g h _;unfold tf at h;injection h with q f
  exact⟨fun x a=>oU a Ds,.inl ⟨q.symm,f.symm⟩⟩
 |cons p l ih=>
  intro u0 g0 u g h B;obtain⟨e,A,W⟩:=p;obtain⟨w,v⟩:=Kx.1 B;unfold tf at h;split at h
  .rename_i hb;obtain⟨q,f⟩:=ih u0 g0 u g h v;refine⟨fun x a d=>?_,f.imp id fun⟨s,c⟩=>⟨s,Bm⟩⟩;rcases DR.1 a with rfl|a
   .exact hb
   exact q x a d
  obtain⟨q,f⟩:=ih e A u g h v;refine⟨fun x a d=>?_,.inr ?_⟩
  .rcases DR.1 a with rfl|a
   .exfalso;rcases f with⟨rfl,_⟩|⟨s,c⟩
    .exact GM _ d
    have:=w _ c;simp only at this d;omega
   exact q x a d
  rcases f with⟨rfl,rfl⟩|⟨s,c⟩
  .exact⟨W,cA⟩
  exact⟨s,Bm⟩
theorem Su:∀{l:List (Nat×Nat)},xW m l=true→∀j c,(j,c)∈l→m.testBit j=true:=by
 intro l;induction l with
 |nil=>intro _ i b h;cases h
 |cons p l ih=>
  intro h i c a;obtain⟨j,d⟩:=p;unfold xW at h;split at h
  .rename_i hc;rcases DR.1 a with e|a
   .injection e with e1 e2
    subst e1 e2;exact hc
   exact ih h i c a
  cases h
theorem Sv:∀{l:List (Nat×Hp×List Nat)},fP m l=true→∀e x,(e,x)∈l→m.testBit e=true:=by
 intro l;induction l with
 |nil=>intro _ e x h;cases h
 |cons p l ih=>
  intro h i c a;obtain⟨j,d⟩:=p;unfold fP at h;split at h
  .rename_i hc;rcases DR.1 a with e|a
   .injection e with e1 e2
    subst e1 e2;exact hc
   exact ih h i c a
  cases h
theorem gJ:∀(l:List Oper) (acc:List Nat) (i:Nat),i<O acc→(wu l acc)[i]?=acc[i]?:=by
 intro l;induction l with
 |nil=>intro acc i _;rfl
 |cons o l ih=>
  intro acc i a;unfold wu;rw[ih _ i eN,En a]
theorem Sw{acc:List Nat}:∀(a:List Edge) (s:Nat),(a.foldl (fun s e=>match Fv .any e with|true=>s|||2^e.on|||acc.getD e.on 0|false=>s) s).testBit j=true→
  s.testBit j=true∨∃e∈a,Fv .any e=true∧(e.on=j∨(acc.getD e.on 0).testBit j=true):=by
 intro a;induction a with
 |nil=>intro s h;exact .inl h
 |cons e a ih=>
  intro s h;rw[I5]at h;rcases ih _ h with h|⟨d,c,f,g⟩
  .split at h
   .rename_i hb;simp only[Nat.testBit_or,Im,Nat.testBit_two_pow,decide_eq_true_eq]at h;rcases h with(h|h)|h
    .exact .inl h
    .exact .inr ⟨e,cA,hb,.inl h⟩
    exact .inr ⟨e,cA,hb,.inr h⟩
   exact .inl h
  exact .inr ⟨d,Bm,f,g⟩
theorem Sx:∀(l:List Oper) (acc:List Nat) (i m j:Nat),O acc≤i→(wu l acc)[i]?=some m→m.testBit j=true→
  ∃o,l[i-O acc]?=some o∧∃e∈o.after,Fv .any e=true∧(e.on=j∨(e.on<i∧∃m',(wu l acc)[e.on]?=some m'∧m'.testBit j=true)):=by
 intro l;induction l with
 |nil=>
  intro acc i m j s a;have:(wu [] acc)[i]?=none:=DS s;rw[this]at a;cases a
 |cons o l ih=>
  intro acc i m j s a v;unfold wu at a;by_cases g:i=O acc
  .subst g;rw[gJ _ _ _ cA,List.getElem?_append_right Dh,Nat.sub_self,List.getElem?_cons_zero]at a;refine⟨o,cA,?_⟩;injection a with a
   subst a;have:=Sw (acc:=acc) (j:=j) o.after.toList 0 v;rcases this with h|⟨e,g,f,d⟩
   .simp at h
   refine⟨e,by simpa using g,f,d.imp id fun d=>?_⟩;have c:e.on<O acc:=by
    apply Gm;intro w;simp[Ir,DS w]at d
   refine⟨c,acc[e.on],?_,?_⟩
   .rw[wu,gJ _ _ _ eN,En c,Dm c]
   simpa [Ir,c]using d
  obtain⟨q,y,e,p,f,d⟩:=ih _ i m j eN a v;refine⟨q,?_,e,p,f,d⟩;have:i-O acc=(i-(O acc+1))+1:=Z;rw[this];simpa using y
def ND(k:Nat):Operand→Bool
 | .tmp t=>Eh t k
 |_=>false
def tE(ops:List Oper)(o:Oper)(k:Nat):Bool:=
 (match o.dst with|some d=>Eh d k|none=>false)||
 (o.op.operands.toList.any (ND k)||
 (match o.guard with|some (j,_)=>(match ops[j]? with|some g=>(match g.dst with|some d=>Eh d k|none=>false)|none=>false)|none=>false))
def Na:List Oper→Nat→Bool
 |[],_=>true
 |o::r,i=>o.after.toList.all (fun e=> !Region.binds .any e||Iu e.on i)&&Na r (i+1)
def pairOk(ops:List Oper)(ms:List Nat)(i k:Nat):List Oper→Nat→Bool
 |[],_=>true
 |o::r,j=>(Eh i j||(!tE ops o k||(match Iu i j with|true=>(ms.getD j 0).testBit i|false=>(ms.getD i 0).testBit j)))&&pairOk ops ms i k r (j+1)
def Nc(ops:List Oper)(ms:List Nat):List Oper→Nat→Bool
 |[],_=>true
 |o::r,i=>(match o.dst with|some k=>pairOk ops ms i k ops 0|none=>true)&&Nc ops ms r (i+1)
def regOk(ops:Array Oper):Bool:=Na ops.toList 0&&Nc ops.toList (wu ops.toList []) ops.toList 0
theorem cu:∀(l:List Oper) (i:Nat),Na l i=true→∀j o,l[j]?=some o→∀e∈o.after,Fv .any e=true→e.on<i+j:=by
 intro l;induction l with
 |nil=>intro i _ j o h;simp at h
 |cons q l ih=>
  intro i h j o a e d c;unfold Na at h;simp only[Ew,Fy]at h;cases j with
  |zero=>
   simp at a;subst a;have:=h.1 e Aw;simp only[c,JF,Bool.false_or]at this;have:=D5 this;omega
  |succ j=>
   have:=ih (i+1) h.2 j o (by simpa using a) e d c;omega
theorem de{ops:List Oper}{f:List Nat}:∀(l:List Oper) (j0:Nat),pairOk ops f i k l j0=true→∀j o,l[j]?=some o→i≠j0+j→tE ops o k=true→
  (i<j0+j→(f.getD (j0+j) 0).testBit i=true)∧(j0+j<i→(f.getD i 0).testBit (j0+j)=true):=by
 intro l;induction l with
 |nil=>intro j0 _ j o h;simp at h
 |cons q l ih=>
  intro j0 h j o d g m;unfold pairOk at h;simp only[Ew,Im,FY]at h;cases j with
  |zero=>
   simp at d;subst d;rcases h.1 with a|a|a
   .exact oU (Eb a) g
   .rw[m]at a;cases a
   refine⟨fun c=>?_,fun c=>?_⟩
   .rw[show Iu i j0=true from Dv c]at a;exact a
   have:Iu i j0=false:=by
    cases hb:Iu i j0 with
    |false=>rfl
    |true=>have:=D5 hb;simp at c;omega
   rw[this]at a;exact a
  |succ j=>
   have:=ih (j0+1) h.2 j o Aw Z m;have e:j0+1+j=j0+(j+1):=Z;rw[e]at this;exact this
theorem Sy{ops:List Oper}{d:List Nat}:∀(l:List Oper) (i0:Nat),Nc ops d l i0=true→∀i o k,l[i]?=some o→o.dst=some k→pairOk ops d (i0+i) k ops 0=true:=by
 intro l;induction l with
 |nil=>intro i0 _ i o k h;simp at h
 |cons q l ih=>
  intro i0 h i o k a c;unfold Nc at h;simp only[Ew]at h;cases i with
  |zero=>
   simp at a;subst a;rw[c]at h;exact h.1
  |succ i=>
   have:=ih (i0+1) h.2 i o k (by simpa using a) c;have e:i0+1+i=i0+(i+1):=Z;rw[e]at this;exact this
structure Lx (X:Rel)(C:Ctx)(ops:Array Oper)(D:Nat→Dr)(V:Nat→Value)(M:Nat→Nat):Prop where
 stp:∀i (hi:i<ops.size),Stp X C ops.toList i (M i) ops[i] (D i) (D (i+1)) (V i)
 stt:∀i (hi:i<ops.size),StT C ops[i] (D i) (D (i+1)) (V i)
 ms:∀i,i<ops.size→(wu ops.toList [])[i]?=some (M i)
 reg:regOk ops=true
 cst:∀o∈ops,yu o=true
 past:∀k,C.nt≤k→nth (D 0).s.t k=undef
 al:(D 0).al=[]
 ld:(D 0).ld=[]
 ef:(D 0).ef=[]
def wm(C:Ctx)(ops:Array Oper)(D:Nat→Dr)(j b:Nat)(c:List Value)(e:TypeId):Prop:=
 ∃(hj:j<ops.size) (k:Mk),KS ops[j].op=2∧uo ops.toList (D j).s.t ops[j]=true∧KX C.E ops[j].op (ev (D j).s.t)=some k∧b=k.name (D j).s.n∧c=k.c∧e=k.e
def LD(ops:Array Oper)(D:Nat→Dr)(j:Nat)(W:List Nat):Prop:=
 ∃(hj:j<ops.size),KS ops[j].op=3∧uo ops.toList (D j).s.t ops[j]=true∧(D (j+1)).ef=(j,(D j).s.h,W)::(D j).ef
section
variable {X:Rel}{C:Ctx}{D:Nat→Dr}{V:Nat→Value}{M:Nat→Nat}
theorem Lx.mask(L:Lx X C ops D V M)(c:i<ops.size)(p:(M i).testBit j=true):∃e∈ops[i].after,Fv .any e=true∧(e.on=j∨(e.on<i∧(M e.on).testBit j=true)):=by
 obtain⟨o,d,e,m,l,h⟩:=Sx ops.toList [] i (M i) j cA (L.ms i c) p;have:o=ops[i]:=by
  simp only[List.length_nil,Nat.sub_zero,G6,G8 c]at d;exact(ET d).symm
 subst this;refine⟨e,m,l,h.imp id fun⟨f,q,a,g⟩=>⟨f,?_⟩⟩;rw[L.ms e.on Z]at a;injection a with a
 rw[a];exact g
theorem Lx.down(L:Lx X C ops D V M)(d:i<ops.size):∀e∈ops[i].after,Fv .any e=true→e.on<i:=fun e c a=>by
 have h:=L.reg;unfold regOk at h;simp only[Ew]at h;have:=cu ops.toList 0 h.1 i ops[i] (by simp[d]) e c a;omega
theorem Lx.ord(L:Lx X C ops D V M)(c:i<ops.size)(d:j<ops.size)(p:i≠j)(m:ops[i].dst=some k)(o:tE ops.toList ops[j] k=true):
  (i<j→(M j).testBit i=true)∧(j<i→(M i).testBit j=true):=by
 have h:=L.reg;unfold regOk at h;simp only[Ew]at h;have l:=Sy ops.toList 0 h.2 i ops[i] k Bm m;have a:=de ops.toList 0 l j ops[j] (by simp[d]) Z o;have f:(wu ops.toList []).getD j 0=M j:=by simp[Ir,L.ms j d]
 have g:(wu ops.toList []).getD i 0=M i:=by simp[Ir,L.ms i c]
 simp only[D7,f,g]at a;exact a
theorem Lx.nle(L:Lx X C ops D V M)(a:i≤j)(f:j≤ops.size):(D i).s.n≤(D j).s.n:=by
 induction j with
 |zero=>(have:i=0:=Z);subst this;exact Fu _
 |succ j ih=>
  by_cases e:i=j+1
  .subst e;exact Fu _
  have c:=ih Z Z;have d:(D j).s.n≤(D (j+1)).s.n:=by
   cases L.stp j Z with
   |skip _ _ hs _=>rw[hs.n];exact Fu _
   |pure _ _ _ _ hs _=>rw[hs.n];exact Fu _
   |load _ _ _ _ _ _ _ _ _ hs _=>rw[hs.n];exact Fu _
   |make _ _ _ _ _ _ hn _ _ _ _=>rw[hn];omega
   |eff _ _ _ _ _ _ _ h4 _ _ _ _=>exact h4
  omega
theorem Lx.past'(L:Lx X C ops D V M)(c:i≤ops.size)(a:C.nt≤k):nth (D i).s.t k=undef:=by
 induction i with
 |zero=>exact L.past k a
 |succ i ih=>
  have h:=L.stt i Z;rw[h.t,CT (fun e=>oU (h.lt k e) (Ky.2 a))];exact ih Z
theorem Lx.sub(L:Lx X C ops D V M)(g:i≤j)(l:j≤ops.size):(∀x∈(D i).al,x∈(D j).al)∧(∀x∈(D i).ld,x∈(D j).ld)∧∀x∈(D i).ef,x∈(D j).ef:=by
 induction j with
 |zero=>(have:i=0:=Z);subst this;exact⟨fun _ h=>h,fun _ h=>h,fun _ h=>h⟩
 |succ j ih=>
  by_cases e:i=j+1
  .subst e;exact⟨fun _ h=>h,fun _ h=>h,fun _ h=>h⟩
  obtain⟨a,c,d⟩:=ih Z Z;cases L.stp j Z with
  |skip _ _ hs hl=>rw[hs.al,hl,hs.ef];exact⟨a,c,d⟩
  |pure _ _ _ _ hs hl=>rw[hs.al,hl,hs.ef];exact⟨a,c,d⟩
  |load _ _ _ _ _ _ _ _ _ hs hl=>rw[hs.al,hl,hs.ef];exact⟨a,fun x f=>by simp[c x f],d⟩
  |make _ _ _ _ _ _ _ _ ha hl he=>rw[ha,hl,he];exact⟨fun x f=>by simp[a x f],c,d⟩
  |eff _ _ _ _ _ _ _ _ _ ha hl he=>rw[ha,hl,he];exact⟨a,c,fun x f=>by simp[d x f]⟩
theorem Lx.efs(L:Lx X C ops D V M)(l:j≤ops.size):(D j).ef.Pairwise (fun x y=>y.1<x.1)∧∀x∈(D j).ef,x.1<j∧x.2.1=(D x.1).s.h∧LD ops D x.1 x.2.2:=by
 induction j with
 |zero=>rw[L.ef];exact⟨aa0,fun x a=>oU a Ds⟩
 |succ j ih=>
  obtain⟨d,f⟩:=ih Z;have c:∀x∈(D j).ef,x.1<j+1∧x.2.1=(D x.1).s.h∧LD ops D x.1 x.2.2:=fun x a=>⟨by have:=(f x a).1;omega,(f x a).2⟩;cases L.stp j Z with
  |skip _ _ hs _=>rw[hs.ef];exact⟨d,c⟩
  |pure _ _ _ _ hs _=>rw[hs.ef];exact⟨d,c⟩
  |load _ _ _ _ _ _ _ _ _ hs _=>rw[hs.ef];exact⟨d,c⟩
  |make _ _ _ _ _ _ _ _ _ _ he=>rw[he];exact⟨d,c⟩
  |eff hw hc W _ _ _ _ _ _ _ _ he=>
   refine⟨?_,fun x a=>?_⟩
   .rw[he];exact Kx.2 ⟨fun y g=>(f y g).1,d⟩
   rw[he]at a;rcases DR.1 a with rfl|a
   .exact⟨cA,rfl,Z,hc,hw,he⟩
   exact c x a
theorem Lx.makes(L:Lx X C ops D V M){c:List Value}(a:wm C ops D j b c e):3*(D j).s.n≤b∧b<3*((D j).s.n+1)∧b%3≠0∧(D (j+1)).s.n=(D j).s.n+1∧(D (j+1)).s.w=(D j).s.w∧
  (∀q,(D (j+1)).s.h.at q=if q=b then some (.row c e)else(D j).s.h.at q)∧(j,b)∈(D (j+1)).al∧∃f:j<ops.size,∃k:Mk,KX C.E ops[j].op (ev (D j).s.t)=some k∧V j=k.val (D j).s.n∧b=k.name (D j).s.n∧c=k.c∧e=k.e:=by
 obtain⟨f,k,d,p,g,rfl,rfl,rfl⟩:=a;obtain⟨l,m,o,u⟩:=qW k (D j).s.n;cases L.stp j f with
 |skip hw' _ _ _=>rw[p]at hw';cases hw'
 |pure _ hc2 _ _ _ _=>exact oU d hc2
 |load _ hc1 _ _ _ _ _ _ _ _ _=>rw[d]at hc1;cases hc1
 |make _ _ k' a hv hh hn hW ha _ _=>
  rw[g]at a;injection a with a
  subst a;exact⟨m,o,l,hn,hW,hh,by rw[ha];simp,f,k,g,hv,rfl,rfl,rfl⟩
 |eff _ hc3 _ _ _ _ _ _ _ _ _ _=>rw[d]at hc3;cases hc3
end
section
variable {ρ':Ren}
def Mu(ops:Array Oper)(In:Nat→Prop)(k q:Nat):Prop:=q≤ops.size∧∀i (hi:i<ops.size),ops[i].dst=some k→(In i↔i<q)
structure Core (X:Rel)(C:Ctx)(ops:Array Oper)(D:Nat→Dr)(ρ0:Ren)(h0:Hp)(w0:World)(p:Nat)(In:Nat→Prop)(Ms:List Nat)(a:Act)(w:World)(ρ:Ren):Prop where
 post:Post X ρ0 C.n0 h0 w0 (D p).s.w ρ undef (D p).s.h (D p).s.n w
 made:∀j b c e,wm C ops D j b c e→p≤j→In j→∃o,w.heap[ρ.b b]?=some o∧oR X ρ b (.row c e) o∧w0.heap.size≤ρ.b b∧(∀q,((D p).s.h.at q).isSome→ρ.b q≠ρ.b b)∧∀x∈Ms,ρ.b b≠x
 apart:∀j b c e j' b' c' e',wm C ops D j b c e→wm C ops D j' b' c' e'→p≤j→p≤j'→In j→In j'→j≠j'→ρ.b b≠ρ.b b'
 tmp:∀k,k<C.nt→∀q,Mu ops In k q→a.tmps[k]?=some (conc ρ (nth (D q).s.t k))
 mark:∀x∈Ms,w.heap[x]?=some (.deferred (some []))∧w0.heap.size≤x∧∀b,((D p).s.h.at b).isSome→ρ.b b≠x
def Lb(C:Ctx)(ops:Array Oper)(D:Nat→Dr)(p:Nat)(In:Nat→Prop)(ρ ρ':Ren):Prop:=
 Lc (3*(D p).s.n) ρ ρ'∧∀j b c e,wm C ops D j b c e→p≤j→In j→ρ'.b b=ρ.b b∧ρ'.x b=ρ.x b
structure J (X:Rel)(C:Ctx)(ops:Array Oper)(D:Nat→Dr)(ρ0:Ren)(h0:Hp)(w0:World)(p:Nat)(In:Nat→Prop)(Ms:List Nat)(a:Act)(w:World)(ρ:Ren):Prop where
 le:p≤ops.size
 eff:∀e W,LD ops D e W→(In e↔e<p)
 mkp:∀j b c e,wm C ops D j b c e→j<p→In j
 cl:∀i (hi:i<ops.size),In i→∀e∈ops[i].after,Fv .any e=true→In e.on
 size:a.tmps.size=C.nt
 dfr:a.defers=gK Ms
 nd:Ms.Nodup
 nb:∀k q,Mu ops In k q→Nb (3*(D q).s.n) (nth (D q).s.t k)
 hnb:∀i,i≤p→K9 (3*(D i).s.n) (D i).s.h
 cnb:∀j b c e,wm C ops D j b c e→In j→∀v∈c,Nb (3*(D j).s.n) v
 old:∀e W,LD ops D e W→e<p→∀b,b<3*(D e).s.n→b∉W→(D (e+1)).s.h.at b=(D e).s.h.at b
 core:∀ρ',Lb C ops D p In ρ ρ'→Core X C ops D ρ0 h0 w0 p In Ms a w ρ'
section
variable {X:Rel}{C:Ctx}{D:Nat→Dr}{V:Nat→Value}{M:Nat→Nat}{ρ0 ρ:Ren}{h0:Hp}{p:Nat}{w:World}
theorem Lb.refl:Lb C ops D p In ρ ρ:=⟨Lc.refl _ _,fun _ _ _ _ _ _ _=>⟨rfl,rfl⟩⟩
theorem Lx.maskIn(L:Lx X C ops D V M)(d:∀i (b:i<ops.size),In i→∀e∈ops[i].after,Fv .any e=true→In e.on):
  ∀i (b:i<ops.size),(∀e∈ops[i].after,Fv .any e=true→In e.on)→∀j,(M i).testBit j=true→In j:=by
 intro i;induction i using Hb with
 |ind i ih=>
  intro b m j q;obtain⟨e,f,c,h⟩:=L.mask b q;rcases h with rfl|⟨l,g⟩
  .exact m e f c
  exact ih e.on l Z (d e.on Z (m e f c)) j g
theorem OV(L:Lx X C ops D V M)(I:J X C ops D ρ0 h0 w0 p In Ms a w ρ):∀(d:Nat),p+d≤ops.size→(∀e W,LD ops D e W→p≤e→e<p+d→False)→(∀j b c e,wm C ops D j b c e→p≤j→j<p+d→In j)→
  ∀ρ',Lb C ops D p In ρ ρ'→Post X ρ0 C.n0 h0 w0 (D (p+d)).s.w ρ' undef (D (p+d)).s.h (D (p+d)).s.n w∧∀b,((D (p+d)).s.h.at b).isSome→((D p).s.h.at b).isSome∨∃j c e,wm C ops D j b c e∧p≤j∧j<p+d:=by
 intro d;induction d with
 |zero=>intro _ _ _ ρ' A;exact⟨(I.core ρ' A).post,fun b u=>.inl u⟩
 |succ d ih=>
  intro a0 F B ρ' A;obtain⟨P,R⟩:=ih Z (fun e W g m H=>F e W g m Z) (fun j b c e g m H=>B j b c e g m Z) ρ' A;have N:=I.core ρ' A;have G:∀b,((D (p+d)).s.h.at b).isSome→((D p).s.h.at b).isSome∨∃j c e,wm C ops D j b c e∧p≤j∧j<p+(d+1):=fun b u=>(R b u).imp id fun⟨j,c,e,g,m,H⟩=>⟨j,c,e,g,m,Z⟩;have y:Quiet (D (p+d)) (D (p+d+1))→Post X ρ0 C.n0 h0 w0 (D (p+(d+1))).s.w ρ' undef (D (p+(d+1))).s.h (D (p+(d+1))).s.n w∧∀b,((D (p+(d+1))).s.h.at b).isSome→((D p).s.h.at b).isSome∨∃j c e,wm C ops D j b c e∧p≤j∧j<p+(d+1):=fun f=>by
   rw[show p+(d+1)=p+d+1 from rfl,f.h,f.n,f.w];exact⟨P,G⟩
  cases hst:L.stp (p+d) Z with
  |skip _ _ f _=>exact y f
  |pure _ _ _ _ f _=>exact y f
  |load _ _ _ _ _ _ _ _ _ f _=>exact y f
  |make hw hc k hm T hh hn hW ha hl he=>
   have l:wm C ops D (p+d) (k.name (D (p+d)).s.n) k.c k.e:=⟨Z,k,hc,hw,hm,rfl,rfl,rfl⟩;obtain⟨m1,m2,m3,m4,m5,Z4,m7,_⟩:=L.makes l;have K:=B _ _ _ _ l Z Z;obtain⟨o,Z3,Z0,S,Z1,_⟩:=N.made _ _ _ _ l Z K;refine⟨?_,fun b u=>?_⟩
   .rw[show p+(d+1)=p+d+1 from rfl,hW,hn];refine P.add m1 m2 Z4 Z3 Z0 (fun v T=>I.cnb _ _ _ _ l K v T) S fun q f=>?_;rcases R q f with g|⟨j,c,e,g,m,H⟩
    .exact Z1 q g
    exact N.apart _ _ _ _ _ _ _ _ g l m Z (B _ _ _ _ g m Z) K Z
   rw[show p+(d+1)=p+d+1 from rfl,Z4]at u;split at u
   .rename_i e;subst e;exact .inr ⟨p+d,k.c,k.e,l,Z,Z⟩
   exact G b u
  |eff hw hc W _ _ _ _ _ _ _ _ he=>exact oU (F (p+d) W ⟨Z,hc,hw,he⟩ Z Z) id
theorem J.reads(L:Lx X C ops D V M)(c:J X C ops D ρ0 h0 w0 p In Ms a w ρ)(f:i<ops.size)(b:¬In i)(u:∀e∈ops[i].after,Fv .any e=true→In e.on)(v:tE ops.toList ops[i] k=true):Mu ops In k i:=by
 refine⟨Z,fun j d s=>?_⟩;by_cases e:j=i
 .subst e;exact⟨fun h=>oU h b,fun h=>oU h (GM _)⟩
 obtain⟨m,q⟩:=L.ord d f e s v;refine⟨fun g=>?_,fun l=>L.maskIn c.cl i f u j (m l)⟩;apply Gm;intro y;exact b (L.maskIn c.cl j d (c.cl j d g) i (q Z))
theorem ku{l:List Oper}(h:Operand.tmp k∈o.op.operands):tE l o k=true:=by
 unfold tE;have:o.op.operands.toList.any (ND k)=true:=List.any_eq_true.2 ⟨.tmp k,AJ,by simp[ND]⟩;rw[this];simp
theorem jt{g:Oper}{b:Bool}(h:o.guard=some (j,b))(d:ops[j]?=some g)(c:g.dst=some k):tE ops.toList o k=true:=by
 unfold tE;simp[h,d,c]
theorem eo{l:List Oper}(h:o.dst=some k):tE l o k=true:=by
 unfold tE;simp[h]
theorem J.evals(L:Lx X C ops D V M)(b:J X C ops D ρ0 h0 w0 p In Ms a w ρ)(d:i<ops.size)(m:¬In i)(y:∀e∈ops[i].after,Fv .any e=true→In e.on)(u:Lb C ops D p In ρ ρ'):
  ∀x∈ops[i].op.operands,a.eval x=conc ρ' (ev (D i).s.t x):=by
 intro x q;have c:pM x=true:=by
  have:=L.cst ops[i] (HQ d);unfold yu at this;simp only[Ew,Array.all_eq_true_iff_forall_mem]at this;exact this.1 x q
 cases x with
 |tmp k=>
  have A:=b.reads L d m y (ku (l:=ops.toList) q);simp only[Jm,ev];by_cases hk:k<C.nt
  .have:=(b.core ρ' u).tmp k hk i A;simp[this]
  rw[L.past' Z (Ky.1 hk)];have:a.tmps[k]?=none:=FA (by rw[b.size];exact Ky.1 hk);simp[this]
 |const v=>simp only[Jm,ev];rw[show closed v=true from c];exact(yL c).symm
 |global g=>simp[Jm,ev,Ren.addr,ρ'.gl]
 |func f=>simp[Jm,ev,Ren.fn]
theorem J.evnb(L:Lx X C ops D V M)(b:J X C ops D ρ0 h0 w0 p In Ms a w ρ)(d:i<ops.size)(c:¬In i)(m:∀e∈ops[i].after,Fv .any e=true→In e.on):
  ∀x∈ops[i].op.operands,Nb (3*(D i).s.n) (ev (D i).s.t x):=by
 intro x q;cases x with
 |tmp k=>exact b.nb k i (b.reads L d c m (ku (l:=ops.toList) q))
 |const v=>
  simp only[ev];split
  .exact Nb.closed nN
  exact Nb.undef
 |global g=>exact Nb.global g
 |func f=>intro ρ ρ' _;simp[ev,Ren.fn]
end
end
section
variable {ρ':Ren}{E:Env}
section
variable {X:Rel}{C:Ctx}{D:Nat→Dr}{V:Nat→Value}{M:Nat→Nat}{ρ0 ρ:Ren}{h0:Hp}{p:Nat}{w:World}
theorem J.wanted(L:Lx X C ops D V M)(f:J X C ops D ρ0 h0 w0 p In Ms a w ρ)(F:i<ops.size)(l:¬In i)(G:∀e∈ops[i].after,Fv .any e=true→In e.on):
  IZ ops[i] (yielded ops a.tmps)=uo ops.toList (D i).s.t ops[i]:=by
 unfold IZ uo;cases hg:ops[i].guard with
 |none=>rfl
 |some q=>
  obtain⟨j,b⟩:=q;simp only[G6];unfold yielded;cases hj:ops[j]? with
  |none=>simp
  |some g=>
   simp only[H4];cases hdst:g.dst with
   |none=>simp
   |some d=>
    have y:=f.reads L F l G (jt (ops:=ops) hg hj hdst);by_cases hlt:d<C.nt
    .simp only[H4,(f.core ρ Lb.refl).tmp d hlt i y];cases y:nth (D i).s.t d with
     |bool c=>cases b<;>cases c<;>simp
     |pointer q=>cases q<;>simp
     |slice q _ _=>cases q<;>simp
     |_=>simp[conc]
    have A:a.tmps[d]?=none:=FA (by rw[f.size];exact HB hlt);have B:=L.past' (i:=i) Z (HB hlt);simp[A,B,undef]
theorem Lx.keep(L:Lx X C ops D V M):∀(d:Nat),i+d≤ops.size→(∀j (e:j<ops.size),i≤j→j<i+d→ops[j].dst≠some k)→nth (D (i+d)).s.t k=nth (D i).s.t k:=by
 intro d;induction d with
 |zero=>intro _ _;rfl
 |succ d ih=>
  intro g c;have h:=L.stt (i+d) Z;rw[show i+(d+1)=i+d+1 from rfl,h.t,CT (c _ Z Z Z)];exact ih Z fun j e f l=>c j e f Z
theorem J.next(L:Lx X C ops D V M)(l:J X C ops D ρ0 h0 w0 p In Ms a w ρ){q:Nat}(g:i<ops.size)(F:¬In i)(hv:Mu ops (fun j=>In j∨j=i) k q):
  (ops[i].dst=some k∧i<q∧nth (D q).s.t k=V i)∨(ops[i].dst≠some k∧Mu ops In k q):=by
 by_cases hd:ops[i].dst=some k
 .have A:i<q:=(hv.2 i g hd).1 (.inr rfl);refine .inl ⟨hd,A,?_⟩;obtain⟨d,rfl⟩:∃d,q=i+1+d:=⟨q-(i+1),Z⟩;rw[L.keep d hv.1 fun j f H G c=>?_,(L.stt i g).t,De hd];have y:In j:=((hv.2 j f c).2 G).resolve_right Z;have:=(L.ord g f Z hd (eo c)).1 Z;exact F (L.maskIn l.cl j f (l.cl j f y) i this)
 refine .inr ⟨hd,hv.1,fun j f c=>?_⟩;have B:j≠i:=fun e=>by subst e;exact hd c
 have:=hv.2 j f c;exact⟨fun h=>this.1 (.inl h),fun h=>(this.2 h).resolve_right B⟩
theorem eS{a:Act}{d:Option Tmp}:(a.put d v).tmps[k]?=if d=some k∧k<a.tmps.size then some v else a.tmps[k]?:=by
 cases d with
 |none=>simp[ak2]
 |some i=>
  simp only[ak2];by_cases e:i=k
  .subst e;by_cases hk:i<a.tmps.size
   .simp[hk]
   simp[hk]
  rw[Hw e,CT];simp[e]
theorem jO{a:Act}{d:Option Tmp}:(a.put d v).tmps.size=a.tmps.size:=by
 cases d<;>simp[ak2]
theorem pu{a:Act}{d:Option Tmp}:(a.put d v).defers=a.defers:=by
 cases d<;>simp[ak2]
theorem Lb.mono{ρ:Ren}(h:Lb C ops D p (fun j=>In j∨j=i) ρ ρ'):Lb C ops D p In ρ ρ':=
 ⟨h.1,fun j b c e d f g=>h.2 j b c e d f (.inl g)⟩
theorem J.quiet(L:Lx X C ops D V M)(d:J X C ops D ρ0 h0 w0 p In Ms a w ρ)(T:i<ops.size)(I:¬In i)(hr:∀e∈ops[i].after,Fv .any e=true→In e.on)
  (a0:∀W,¬LD ops D i W)(a1:∀b c e,¬wm C ops D i b c e){N:Value}(R:∀ρ',Lb C ops D p In ρ ρ'→N=conc ρ' (V i))(Z0:Nb (3*(D (i+1)).s.n) (V i)):
  J X C ops D ρ0 h0 w0 p (fun j=>In j∨j=i) Ms (a.put ops[i].dst N) w ρ:=by
 have F:∀j b c e,wm C ops D j b c e→(In j∨j=i)→In j:=fun j b c e g h=>h.resolve_right fun l=>by subst l;exact a1 _ _ _ g
 refine⟨d.le,fun e W A=>?_,fun j b c e g B=>.inl (d.mkp j b c e g B),fun j Z4 f e A S=>?_,by rw[jO];exact d.size,by rw[pu];exact d.dfr,d.nd,fun k q G=>?_,d.hnb,fun j b c e g f=>d.cnb j b c e g (F j b c e g f),d.old,fun ρ' K=>?_⟩
 .rw[←d.eff e W A];refine⟨fun h=>h.resolve_right fun l=>?_,.inl⟩;subst l;exact a0 W A
 .rcases f with f|rfl
  .exact .inl (d.cl j Z4 f e A S)
  exact .inl (hr e A S)
 .rcases d.next L T I G with⟨_,a3,h⟩|⟨_,h⟩
  .rw[h];exact Z0.mono (by have:=L.nle (i:=i+1) (j:=q) Z G.1;omega)
  exact d.nb k q h
 have y:=d.core ρ' K.mono;refine⟨y.post,fun j b c e g B f=>y.made j b c e g B (F j b c e g f),fun j b c e j' b' c' l g H B a2 f P=>y.apart j b c e j' b' c' l g H B a2 (F j b c e g f) (F _ _ _ _ H P),fun k Z3 q G=>?_,y.mark⟩;rw[eS];rcases d.next L T I G with⟨Z1,_,h⟩|⟨Z1,h⟩
 .rw[De ⟨Z1,by rw[d.size];exact Z3⟩,h,R ρ' K.mono]
 rw[CT (fun h=>Z1 h.1)];exact y.tmp k Z3 q h
theorem dq(h:∀c:i<ops.size,KS ops[i].op=3→uo ops.toList (D i).s.t ops[i]=true→False):∀W,¬LD ops D i W:=fun W⟨c,d,e,_⟩=>h c d e
theorem mK(h:∀d:i<ops.size,KS ops[i].op=2→uo ops.toList (D i).s.t ops[i]=true→False):∀b c e,¬wm C ops D i b c e:=fun _ _ _⟨d,_,f,g,_⟩=>h d f g
theorem Lx.hist(L:Lx X C ops D V M){p:Nat}:∀(d:Nat),p+d≤ops.size→(∀e W,LD ops D e W→p≤e→e<p+d→False)→
  ∀b x,(D (p+d)).s.h.at b=some x→(D p).s.h.at b=some x∨∃j c e,wm C ops D j b c e∧p≤j∧j<p+d∧x=.row c e:=by
 intro d;induction d with
 |zero=>intro _ _ b x f;exact .inl f
 |succ d ih=>
  intro G q b x f;have l:=ih Z (fun e W y A B=>q e W y A Z) b x;have g:((D p).s.h.at b=some x∨∃j c e,wm C ops D j b c e∧p≤j∧j<p+d∧x=.row c e)→((D p).s.h.at b=some x∨∃j c e,wm C ops D j b c e∧p≤j∧j<p+(d+1)∧x=.row c e):=
   fun h=>h.imp id fun⟨j,c,e,y,A,B,F⟩=>⟨j,c,e,y,A,Z,F⟩
  rw[show p+(d+1)=p+d+1 from rfl]at f;cases L.stp (p+d) Z with
  |skip _ _ hq _=>rw[hq.h]at f;exact g (l f)
  |pure _ _ _ _ hq _=>rw[hq.h]at f;exact g (l f)
  |load _ _ _ _ _ _ _ _ _ hq _=>rw[hq.h]at f;exact g (l f)
  |make hw hc k hm hv hh hn hW ha hl he=>
   rw[hh]at f;split at f
   .rename_i e;injection f with f
    exact .inr ⟨p+d,k.c,k.e,⟨Z,k,hc,hw,hm,e,rfl,rfl⟩,Z,Z,f.symm⟩
   exact g (l f)
  |eff hw hc W _ _ _ _ _ _ _ _ he=>exact oU (q (p+d) W ⟨Z,hc,hw,he⟩ Z Z) id
theorem J.stays(L:Lx X C ops D V M)(g:J X C ops D ρ0 h0 w0 p In Ms a w ρ):∀(d:Nat),u+d≤p→b<3*(D u).s.n→(∀e W,LD ops D e W→u≤e→e<u+d→b∉W)→(D (u+d)).s.h.at b=(D u).s.h.at b:=by
 intro d;induction d with
 |zero=>intro _ _ _;rfl
 |succ d ih=>
  intro F A f;have B:=g.le;have c:=ih Z A (fun e W q y G=>f e W q y Z);have H:=L.nle (i:=u) (j:=u+d) Z Z;rw[show u+(d+1)=u+d+1 from rfl];cases L.stp (u+d) Z with
  |skip _ _ hq _=>rw[hq.h];exact c
  |pure _ _ _ _ hq _=>rw[hq.h];exact c
  |load _ _ _ _ _ _ _ _ _ hq _=>rw[hq.h];exact c
  |make hw hc k hm hv hh hn' hW ha hl he=>
   rw[hh,CT (by have:=(qW k (D (u+d)).s.n).2.1;omega)];exact c
  |eff hw hc W _ _ _ _ _ _ _ _ he=>
   have l:LD ops D (u+d) W:=⟨Z,hc,hw,he⟩;rw[g.old _ W l Z b Z (f _ W l Z Z)];exact c
theorem qY(e:EnvOk2 X.E X.P){g:Operand→Value}{h:Hp}(c:tW X.E o.op g h=some (v,b)){ρ:Ren}{w:World}(l:Sim X ρ h w)(f:K9 m h):
  (execOp (fun x=>conc ρ (g x)) o).run X.P w=.ok (.value (conc ρ v)) w∧Nb m v:=by
 unfold tW at c;split at c
 .rename_i t a ho;split at c
  .rename_i ad ha;split at c
   .rename_i u hu;simp at c;obtain⟨rfl,rfl⟩:=c;obtain⟨j,d,_⟩:=mN e.toEnvOk l f hu;refine⟨?_,d⟩;unfold execOp;simp[ho,ha,ak0,HT,j]
   cases c
  cases c
 cases c
theorem SA{g:Operand→Value}{h:Hp}(c:tW E o.op g h=some (v,b)):∃x,h.at b=some x:=by
 unfold tW at c;split at c
 .split at c
  .split at c
   .rename_i u hu;simp at c;obtain⟨rfl,rfl⟩:=c;unfold mO at hu;split at hu
    .simp at hu;obtain⟨f,d,_⟩:=hu;obtain⟨_,x,e,_⟩:=wL d;exact⟨x,e⟩
    .split at hu
     .rename_i d;obtain⟨_,x,e,_⟩:=wL d;exact⟨x,e⟩
     cases hu
    cases hu
   cases c
  cases c
 cases c
theorem J.load(hE:EnvOk2 X.E X.P)(hX:C.E=X.E)(L:Lx X C ops D V M)(y:J X C ops D ρ0 h0 w0 p In Ms a w ρ)(hi:i<ops.size)(a3:¬In i)(hr:∀e∈ops[i].after,Fv .any e=true→In e.on)
  (hw:uo ops.toList (D i).s.t ops[i]=true)(hc:KS ops[i].op=1){h:Hp}(ag:tf (M i) (D i).ef i (D i).s.h=(u,h))(hp:tW C.E ops[i].op (ev (D i).s.t) h=some (v,b))
  (h1:ot u b (D i).ef=true)(h2:pz (M i) b (D i).al=true)(ac:(D (i+1)).ld=(i,b)::(D i).ld):
  (∀ρ',Lb C ops D p In ρ ρ'→(execOp a.eval ops[i]).run X.P w=.ok (.value (conc ρ' v)) w)∧Nb (3*(D i).s.n) v:=by
 obtain⟨a6,a7⟩:=L.efs (j:=i) Z;obtain⟨ah,ai⟩:=eM _ _ _ _ _ ag a6;have R:=L.maskIn y.cl i hi hr;have Z0:=L.cst ops[i] (HQ hi);rw[hX]at hp;have S:tW X.E ops[i].op (only ops[i] (ev (D i).s.t)) h=some (v,b):=tU (fun x f=>mI f) hp rfl
 -- the heap that is read
 have hu:u≤i∧h=(D u).s.h:=by
  rcases ai with⟨rfl,rfl⟩|⟨W,hW⟩
  .exact⟨Dh,rfl⟩
  obtain⟨T,Z4,_⟩:=a7 _ hW;exact⟨Nat.le_of_lt T,Z4⟩
 obtain⟨ap,rfl⟩:=hu;obtain⟨xx,F⟩:=SA S;have am:=y.le
 -- effects below u have aj
 have Z3:∀e W,LD ops D e W→e<u→e<p:=fun e W G a2=>by
  have B:(e,(D e).s.h,W)∈(D i).ef:=by
   obtain⟨_,_,_,K⟩:=id G;exact(L.sub (i:=e+1) (j:=i) Z Z).2.2 _ (by rw[K];simp)
  exact(y.eff e W G).1 (R e (ah _ B a2))
 -- effects that have aj, from u on, do not write b
 have af:∀e W,LD ops D e W→u≤e→e<p→b∉W:=fun e W G ad a2=>by
  obtain⟨a0,I,aa,K⟩:=id G;rcases Nat.lt_trichotomy e i with a1|a1|a1
  .have B:(e,(D e).s.h,W)∈(D i).ef:=(L.sub (i:=e+1) (j:=i) Z Z).2.2 _ (by rw[K];simp);exact Ss h1 _ _ _ B ad
  .subst a1;rw[hc]at I;cases I
  have Z1:In e:=(y.eff e W G).2 a2;have B:(i,b)∈(D e).ld:=(L.sub (i:=i+1) (j:=e) Z Z).2.1 _ (by rw[ac];simp);cases L.stp e a0 with
  |skip hw' _ _ _=>rw[aa]at hw';cases hw'
  |pure _ _ hc3 _ _ _=>exact oU I hc3
  |load _ hc1 _ _ _ _ _ _ _ _ _=>rw[I]at hc1;cases hc1
  |make _ hc2 _ _ _ _ _ _ _ _ _=>rw[I]at hc2;cases hc2
  |eff _ _ W' _ _ _ h3 _ _ _ _ he'=>
   have:W'=W:=by
    rw[he']at K;injection K with q1 q2
    injection q1 with q1 q3
    injection q3
   subst this;rcases df h3 i b B with g|g
   .exact oU (L.maskIn y.cl e a0 (y.cl e a0 Z1) i g) a3
   exact g
 have a4:∀g:Hp,g.at b=(D u).s.h.at b→∀m,m≤3*(D i).s.n→K9 m g→(∀ρ',Lb C ops D p In ρ ρ'→Sim X ρ' g w)→
   (∀ρ',Lb C ops D p In ρ ρ'→(execOp a.eval ops[i]).run X.P w=.ok (.value (conc ρ' v)) w)∧Nb (3*(D i).s.n) v:=fun g hg m N hn hs=>by
  have hl:tW X.E ops[i].op (only ops[i] (ev (D i).s.t)) g=some (v,b):=tU (fun x _=>rfl) S hg;refine⟨fun ρ' A=>?_,((qY hE hl (hs ρ Lb.refl) hn).2).mono N⟩;rw[uw Z0 (y.evals L hi a3 hr A)];exact(qY hE hl (hs ρ' A) hn).1
 by_cases hup:u≤p
 .obtain⟨d,rfl⟩:∃d,p=u+d:=⟨p-u,Z⟩;have a9:b<3*(D u).s.n:=(y.hnb u Z _ _ F).1;have a5:=y.stays L d Dh a9 (fun e W G T Z4=>af e W G T Z4);obtain⟨hl,_⟩:(tW X.E ops[i].op (only ops[i] (ev (D i).s.t)) (D (u+d)).s.h=some (v,b))∧True:=⟨tU (fun x _=>rfl) S a5,Df⟩;have hK:=y.core;refine⟨fun ρ' A=>?_,?_⟩
  .rw[uw Z0 (y.evals L hi a3 hr A)];exact(qY hE hl (hK ρ' A).post.sim (hK ρ' A).post.nb).1
  obtain⟨t,H⟩:=Tr.single (none:Option Blk) (some xx) b;have ab:tW X.E ops[i].op (only ops[i] (ev (D i).s.t)) t=some (v,b):=tU (fun x _=>rfl) S Bv;have hs:Sim X ρ t w:=by
   refine⟨fun c x f=>?_,fun c c' f l _=>?_⟩
   .have f:Tr.get none t c=some x:=f;rw[H]at f;split at f
    .rename_i e;subst e;rw[←F,←a5]at f;exact(hK ρ Lb.refl).post.sim.blk c x f
    cases f
   have f:(Tr.get none t c).isSome:=f;have l:(Tr.get none t c').isSome:=l;rw[H]at f l;split at f
   .split at l
    .rename_i e e';rw[e,e']
    cases l
   cases f
  have hn:K9 (3*(D u).s.n) t:=fun c x f=>by
   have f:Tr.get none t c=some x:=f;rw[H]at f;split at f
   .rename_i e;subst e;rw[←F]at f;exact y.hnb u Z _ _ f
   cases f
  exact((qY hE ab hs hn).2).mono (by have:=L.nle (i:=u) (j:=i) Z Z;omega)
 obtain⟨d,rfl⟩:∃d,u=p+d:=⟨u-p,Z⟩;have ae:∀e W,LD ops D e W→p≤e→e<p+d→False:=fun e W G T Z4=>by have:=Z3 e W G Z4;omega
 rcases L.hist d Z ae b _ F with hb|⟨j,c,e,N,T,Z4,g3⟩
 .exact a4 (D p).s.h (by rw[hb,F]) (3*(D p).s.n) (by have:=L.nle (i:=p) (j:=i) Z Z;omega) (y.hnb p Dh) fun ρ' A=>(y.core ρ' A).post.sim
 have Z1:In j:=by
  have B:(j,b)∈(D i).al:=(L.sub (i:=j+1) (j:=i) Z Z).1 _ (L.makes N).2.2.2.2.2.2.1;rcases Sr h2 j b B with g|g
  .exact R j g
  exact oU rfl g
 subst g3;obtain⟨t,H⟩:=Tr.single (none:Option Blk) (some (.row c e)) b;have an:=(L.makes N).2.1;have ak:=L.nle (i:=j+1) (j:=i) Z Z;have ao:=(L.makes N).2.2.2.1;refine a4 t Bv (3*(D i).s.n) Dh (fun q x f=>?_) fun ρ' A=>⟨fun q x f=>?_,fun q q' f l _=>?_⟩
 .have f:Tr.get none t q=some x:=f;rw[H]at f;split at f
  .rename_i eq;injection f with f
   subst eq f;exact⟨Z,fun v hv=>(y.cnb _ _ _ _ N Z1 v hv).mono Z⟩
  cases f
 .have f:Tr.get none t q=some x:=f;rw[H]at f;split at f
  .rename_i eq;injection f with f
   subst eq f;obtain⟨o,ho,a8,_⟩:=(y.core ρ' A).made _ _ _ _ N T Z1;exact⟨o,ho,a8⟩
  cases f
 have f:(Tr.get none t q).isSome:=f;have l:(Tr.get none t q').isSome:=l;rw[H]at f l;split at f
 .split at l
  .rename_i e1 e2;rw[e1,e2]
  cases l
 cases f
end
end
section
variable {X:Rel}{C:Ctx}{D:Nat→Dr}{V:Nat→Value}{M:Nat→Nat}{ρ0 ρ:Ren}{h0:Hp}{p:Nat}{w:World}
theorem Post.grow{ρ:Ren}{h:Hp}{w:World}(p:Post X ρ0 n0 h0 w0 W ρ v h n w)(d:∀k,k<w.heap.size→w'.heap[k]?=w.heap[k]?)(A:w.heap.size≤w'.heap.size)(l:w'.os=w.os)(m:w'.tape=w.tape)(f:w'.output=w.output):Post X ρ0 n0 h0 w0 W ρ v h n w':=by
 refine⟨p.agr,p.le,⟨fun c x s=>?_,p.sim.inj⟩,p.nb,p.val,p.wlt,p.wmem,fun j u q=>?_,by have:=p.size;omega,l.trans p.os,m.trans p.tape,f.trans p.out,p.new,p.old⟩
 .obtain⟨o,g,y⟩:=p.sim.blk c x s;exact⟨o,by rw[d _ (Ei.1 g).1];exact g,y⟩
 rw[d j (by have:=p.size;omega)];exact p.fr j u q
theorem wm.lt_of_lt(L:Lx X C ops D V M){c:List Value}(d:wm C ops D j b c e)(f:i≤ops.size)(h:j<i):b<3*(D i).s.n:=by
 have g:=(L.makes d).2.1;have l:=(L.makes d).2.2.2.1;have m:=L.nle (i:=j+1) (j:=i) Z f;omega
theorem wm.le_of_le(L:Lx X C ops D V M){c:List Value}(d:wm C ops D j b c e)(h:i≤j):3*(D i).s.n≤b:=by
 have f:=(L.makes d).1;have l:j<ops.size:=d.1;have g:=L.nle (i:=i) (j:=j) h Z;omega
theorem J.make(hE:EnvOk2 X.E X.P)(hX:C.E=X.E)(L:Lx X C ops D V M)(hJ:J X C ops D ρ0 h0 w0 p In Ms a w ρ)(hi:i<ops.size)(hni:¬In i)(hr:∀e∈ops[i].after,Fv .any e=true→In e.on)
  (hw:uo ops.toList (D i).s.t ops[i]=true)(hc:KS ops[i].op=2){k:Mk}(hm:KX C.E ops[i].op (ev (D i).s.t)=some k)(hv:V i=k.val (D i).s.n):
  ∃ρ2 w' val,(execOp a.eval ops[i]).run X.P w=.ok (.value val) w'∧J X C ops D ρ0 h0 w0 p (fun j=>In j∨j=i) Ms (a.put ops[i].dst val) w' ρ2:=by
 have hcst:=L.cst ops[i] (HQ hi);have hmk:wm C ops D i (k.name (D i).s.n) k.c k.e:=⟨hi,k,hc,hw,hm,rfl,rfl,rfl⟩;have hpi:p≤i:=HB fun h=>hni (hJ.mkp _ _ _ _ hmk h);obtain⟨n1,n2,n3,n4⟩:=qW k (D i).s.n;have hnext:=(L.makes hmk).2.2.2.1;obtain⟨t,ht⟩:=Tr.single (none:Option Blk) (some (.row k.c k.e)) (k.name (D i).s.n);have hevn:=hJ.evnb L hi hni hr;have hmO:KX X.E ops[i].op (only ops[i] (ev (D i).s.t))=some k:=by rw[←hX,←hm];exact(Sm fun x hx=>mI hx).symm
 obtain⟨ρ1,w',hrun,hpost⟩:=OJ (X:=X) (ρ:=ρ) (h:=.lf) (h':=t) (w:=w) (n:=(D i).s.n) hE.toEnvOk ⟨fun b x hb=>(by cases hb),fun b b' hb=>(by cases hb)⟩ (fun b x hb=>(by cases hb)) (mH hevn) hmO (fun c=>ht c);rw[←uw hcst (hJ.evals L hi hni hr Lb.refl)]at hrun;generalize hbb:k.name (D i).s.n=b at*
 have htb:Hp.at t b=some (.row k.c k.e):=by show Tr.get none t b=_;rw[ht,De rfl]
 obtain⟨o,ho,hrel⟩:=hpost.sim.blk b _ htb;have hbnew:w.heap.size≤ρ1.b b:=by
  rcases hpost.new b n2 (by rw[htb];rfl)with h|⟨c,hc,_⟩
  .exact h
  cases hc
 have hfar:∀j,j<w.heap.size→w'.heap[j]?=w.heap[j]?:=fun j hj=>hpost.fr j hj fun c hc=>by cases hc
 have hρx:gro b=false→ρ1.x b=0:=ρ1.ex b;let ρ2:Ren:=ρ.upd b (ρ1.b b) (ρ1.x b) hρx n1
 have e2:ρ2.b b=ρ1.b b∧ρ2.x b=ρ1.x b:=by simp[ρ2,Ren.upd]
 have e2':∀c,c≠b→ρ2.b c=ρ.b c∧ρ2.x c=ρ.x c:=fun c hc=>by simp[ρ2,Ren.upd,hc]
 have hnm:∀j b' c e,wm C ops D j b' c e→j≠i→b'≠b:=fun j b' c e hm' hne=>by
  rcases Iq hne with h|h
  .have:=wm.lt_of_lt L hm' (i:=i) Z h;omega
  have:=wm.le_of_le L hm' (i:=i+1) h;omega
 have hnp:=L.nle (i:=p) (j:=i) hpi Z
 -- a reading that agrees with ρ2 agrees with ρ
 have hagd:∀ρ',Lb C ops D p (fun j=>In j∨j=i) ρ2 ρ'→Lb C ops D p In ρ ρ':=fun ρ' h=>by
  refine⟨fun c hc=>?_,fun j b' c e hm' hp hin=>?_⟩
  .have h1:=h.1 c hc;have h2:=e2' c Z;exact⟨h1.1.trans h2.1,h1.2.trans h2.2⟩
  have h1:=h.2 j b' c e hm' hp (.inl hin);have h2:=e2' b' (hnm j b' c e hm' fun e'=>by subst e';exact hni hin);exact⟨h1.1.trans h2.1,h1.2.trans h2.2⟩
 have hatb:∀ρ',Lb C ops D p (fun j=>In j∨j=i) ρ2 ρ'→ρ'.b b=ρ1.b b∧ρ'.x b=ρ1.x b:=fun ρ' h=>by
  have:=h.2 i b k.c k.e hmk hpi (.inr rfl);exact⟨this.1.trans e2.1,this.2.trans e2.2⟩
 have hvalc:∀ρ',ρ'.b b=ρ1.b b∧ρ'.x b=ρ1.x b→conc ρ1 (k.val (D i).s.n)=conc ρ' (k.val (D i).s.n):=fun ρ' h=>by
  unfold Mk.val;rw[hbb];split<;>simp[Ren.addr,h.1,h.2]
 have hcn:∀v∈k.c,Nb (3*(D i).s.n) v:=fun v hv=>by
  rcases OS (fun e sz bt z hz=>(hE.inf e sz bt z (by rw[←hX];exact hz)).2) hm v hv with h|⟨x,hx,h⟩
  .exact fun r r' _=>by rw[h,h]
  exact(hevn x hx).cells v h
 have hcc:∀ρ',Lb C ops D p In ρ ρ'→∀v∈k.c,conc ρ' v=conc ρ1 v:=fun ρ' h v hv=>by
  rw[hcn v hv ρ ρ1 hpost.agr];rcases OS (fun e sz bt z hz=>(hE.inf e sz bt z (by rw[←hX];exact hz)).2) hm v hv with h'|⟨x,hx,h'⟩
  .rw[h',h']
  have q1:=hJ.evals L hi hni hr h x hx;have q2:=hJ.evals L hi hni hr Lb.refl x hx;have q:=congrArg zr (q1.symm.trans q2);rw[yK,yK]at q;exact Jw.1 q v h'
 refine⟨ρ2,w',_,hrun,hJ.le,fun e W he=>?_,fun j b c e hm hp=>.inl (hJ.mkp j b c e hm hp),fun j hj' hin e he hb=>?_,by rw[jO];exact hJ.size,by rw[pu];exact hJ.dfr,hJ.nd,fun k' q hvq=>?_,hJ.hnb,fun j b' c e hm' hin=>?_,hJ.old,fun ρ' hρ'=>?_⟩
 .rw[←hJ.eff e W he];refine⟨fun h=>h.resolve_right fun e'=>?_,.inl⟩;subst e';obtain⟨_,h3,_⟩:=he;rw[hc]at h3;cases h3
 .rcases hin with hin|rfl
  .exact .inl (hJ.cl j hj' hin e he hb)
  exact .inl (hr e he hb)
 .rcases hJ.next L hi hni hvq with⟨_,hiq,h⟩|⟨_,h⟩
  .rw[h,hv];exact hpost.val.mono (by have:=L.nle (i:=i+1) (j:=q) Z hvq.1;omega)
  exact hJ.nb k' q h
 .rcases hin with hin|rfl
  .exact hJ.cnb j b' c e hm' hin
  obtain⟨_,k',_,_,hk',_,rfl,_⟩:=hm';rw[hm]at hk';injection hk' with hk'
  subst hk';exact hcn
 have hag:=hagd ρ' hρ';have hK:=hJ.core ρ' hag;have hb':=hatb ρ' hρ';have hin':∀j b' c e,wm C ops D j b' c e→j=i→b'=b∧c=k.c∧e=k.e:=fun j b' c e hm' e'=>by
  subst e';obtain⟨_,k',_,_,hk',h1,h2,h3⟩:=hm';rw[hm]at hk';injection hk' with hk'
  subst hk';exact⟨h1.trans hbb,h2,h3⟩
 refine⟨hK.post.grow hfar hpost.size hpost.os hpost.tape hpost.out,fun j b' c e hm' hp hin=>?_,fun j b1 c1 e1 j' b2 c2 e2 hm1 hm2 hp1 hp2 hin1 hin2 hne=>?_,fun k' hk q hvq=>?_,fun x hx=>?_⟩
 .rcases hin with hin|hin
  .obtain⟨o',ho',h1,h2,h3,h4⟩:=hK.made j b' c e hm' hp hin;exact⟨o',by rw[hfar _ (Ei.1 ho').1];exact ho',h1,h2,h3,h4⟩
  obtain⟨rfl,rfl,rfl⟩:=hin' j b' c e hm' hin;refine⟨o,by rw[hb'.1];exact ho,?_,?_,fun q hq=>?_,fun x hx=>?_⟩
  .obtain⟨junk,fz,rfl,r1,r2,r3⟩:=hrel;refine⟨junk,fz,?_,r1,r2,fun sz bt z hz=>by rw[hb'.2];exact r3 sz bt z hz⟩;rw[EQ (hcc ρ' hag)]
  .rw[hb'.1];have:=hK.post.size;omega
  .obtain⟨y,hy⟩:=Eg.1 hq;obtain⟨o',ho',_⟩:=hK.post.sim.blk q y hy;have:=(Ei.1 ho').1;rw[hb'.1];omega
  have:=(Ei.1 (hK.mark x hx).1).1;rw[hb'.1];omega
 .have small:∀j b c e,wm C ops D j b c e→p≤j→In j→ρ'.b b<w.heap.size:=fun j b c e hm hp hin=>by
   obtain⟨o',ho',_⟩:=hK.made j b c e hm hp hin;exact(Ei.1 ho').1
  rcases hin1 with hin1|hin1
  .rcases hin2 with hin2|hin2
   .exact hK.apart _ _ _ _ _ _ _ _ hm1 hm2 hp1 hp2 hin1 hin2 hne
   obtain⟨rfl,_⟩:=hin' _ _ _ _ hm2 hin2;have:=small _ _ _ _ hm1 hp1 hin1;rw[hb'.1];omega
  rcases hin2 with hin2|hin2
  .obtain⟨rfl,_⟩:=hin' _ _ _ _ hm1 hin1;have:=small _ _ _ _ hm2 hp2 hin2;rw[hb'.1];omega
  exact oU (hin1.trans hin2.symm) hne
 .rw[eS];rcases hJ.next L hi hni hvq with⟨hd,_,h⟩|⟨hd,h⟩
  .rw[De ⟨hd,by rw[hJ.size];exact hk⟩,h,hv,hvalc ρ' hb']
  rw[CT (fun h=>hd h.1)];exact hK.tmp k' hk q h
 obtain⟨m1,m2,m3⟩:=hK.mark x hx;exact⟨by rw[hfar _ (Ei.1 m1).1];exact m1,m2,m3⟩
def Ren.mix(m:Nat)(ρ1 ρ:Ren):Ren where
 b c:=if c<m then ρ1.b c else ρ.b c
 x c:=if c<m then ρ1.x c else ρ.x c
 ex c hc:=by
  split
  .exact ρ1.ex c hc
  exact ρ.ex c hc
 gl g:=by
  split
  .exact ρ1.gl g
  exact ρ.gl g
theorem J.effect(L:Lx X C ops D V M)(A:J X C ops D ρ0 h0 w0 p In Ms a w ρ)(hi:i<ops.size)(ab:¬In i)(hr:∀e∈ops[i].after,Fv .any e=true→In e.on)
  (hw:uo ops.toList (D i).s.t ops[i]=true)(B:KS ops[i].op=3)(h1:fP (M i) (D i).ef=true)(h2:xW (M i) (D i).al=true)
  (hW:(D (i+1)).s.w=addW C.n0 W (D i).s.w)(he:(D (i+1)).ef=(i,(D i).s.h,W)::(D i).ef):
  Sim X ρ (D i).s.h w∧K9 (3*(D i).s.n) (D i).s.h∧∀Z4 w',Post X ρ (D i).s.n (D i).s.h w W Z4 (V i) (D (i+1)).s.h (D (i+1)).s.n w'→
   ∃ρ2,J X C ops D ρ0 h0 w0 (i+1) (fun j=>In j∨j=i) Ms (a.put ops[i].dst (conc Z4 (V i))) w' ρ2:=by
 have an:LD ops D i W:=⟨hi,B,hw,he⟩;have ac:p≤i:=HB fun h=>ab ((A.eff i W an).2 h);have a6:=L.maskIn A.cl i hi hr;have R:∀e u,LD ops D e u→e<i→In e:=fun e u H F=>by
  obtain⟨_,_,_,a3⟩:=id H;have a1:(e,(D e).s.h,u)∈(D i).ef:=(L.sub (i:=e+1) (j:=i) Z Z).2.2 _ (by rw[a3];simp);exact a6 e (Sv h1 _ _ a1)
 have a2:∀j b c e,wm C ops D j b c e→j<i→In j:=fun j b c e l F=>by
  have a1:(j,b)∈(D i).al:=(L.sub (i:=j+1) (j:=i) Z Z).1 _ (L.makes l).2.2.2.2.2.2.1;exact a6 j (Su h2 _ _ a1)
 have aq:∀e u,LD ops D e u→p≤e→e<i→False:=fun e u H S Z0=>by
  have:=(A.eff e u H).1 (R e u H Z0);omega
 have K:∀q,p≤q→q≤i→∀f,Lb C ops D p In ρ f→Post X ρ0 C.n0 h0 w0 (D q).s.w f undef (D q).s.h (D q).s.n w∧∀b,((D q).s.h.at b).isSome→((D p).s.h.at b).isSome∨∃j c e,wm C ops D j b c e∧p≤j∧j<q:=fun q S Z0 f ae=>by
  have:=OV L A (q-p) Z (fun e u H N Z1=>aq e u H N Z) (fun j b c e l N Z1=>a2 j b c e l Z) f ae;rw[show p+(q-p)=q from Z]at this;exact this
 obtain⟨a7,az⟩:=K i ac Dh ρ Lb.refl;refine⟨a7.sim,a7.nb,fun Z4 w' d=>⟨Ren.mix (3*(D (i+1)).s.n) Z4 ρ,?_⟩⟩;have ax:=L.nle (i:=p) (j:=i) ac Z;have au:=L.nle (i:=i) (j:=i+1) Z Z;have I:∀j b c e,wm C ops D j b c e→j≠i:=fun j b c e l Z3=>by
  subst Z3;obtain⟨_,_,h3,_⟩:=l;rw[B]at h3;cases h3
 -- a reading that agrees with the new one agrees with ρ
 have aj:∀f,Lb C ops D (i+1) (fun j=>In j∨j=i) (Ren.mix (3*(D (i+1)).s.n) Z4 ρ) f→Lb C ops D p In ρ f∧Lc (3*(D (i+1)).s.n) Z4 f:=fun f h=>by
  have G:Lc (3*(D (i+1)).s.n) Z4 f:=fun c B=>by
   have:=h.1 c B;simp[Ren.mix,B]at this;exact this
  have a5:∀c,c<3*(D i).s.n→f.b c=ρ.b c∧f.x c=ρ.x c:=fun c B=>by
   have N:=G c Z;have Z1:=d.agr c B;exact⟨N.1.trans Z1.1,N.2.trans Z1.2⟩
  refine⟨⟨fun c B=>a5 c Z,fun j b c e l hp m=>?_⟩,G⟩;rcases Iq (I j b c e l)with g|g
  .exact a5 b (wm.lt_of_lt L l Z g)
  have q:=h.2 j b c e l g (.inl m);have Z1:=wm.le_of_le L l (i:=i+1) g;simp only[Ren.mix,CT (Ky.2 Z1)]at q;exact q
 refine⟨Z,fun e u H=>?_,fun j b c e l F=>?_,fun j ao m e ag hb=>?_,by rw[jO];exact A.size,by rw[pu];exact A.dfr,A.nd,fun k q a8=>?_,fun q T=>?_,fun j b c e l m=>?_,fun e u H F=>?_,fun f ae=>?_⟩
 .constructor
  .rintro(h|rfl)
   .have:=(A.eff e u H).1 h;omega
   omega
  intro F;by_cases Z3:e=i
  .exact .inr Z3
  exact .inl (R e u H Z)
 .exact .inl (a2 j b c e l (by have:=I j b c e l;omega))
 .rcases m with m|rfl
  .exact .inl (A.cl j ao m e ag hb)
  exact .inl (hr e ag hb)
 .rcases A.next L hi ab a8 with⟨_,aw,h⟩|⟨_,h⟩
  .rw[h];exact d.val.mono (by have:=L.nle (i:=i+1) (j:=q) Z a8.1;omega)
  exact A.nb k q h
 .by_cases g:q≤p
  .exact A.hnb q g
  by_cases g':q≤i
  .exact(K q Z g' ρ Lb.refl).1.nb
  have:q=i+1:=Z;subst this;exact d.nb
 .exact A.cnb j b c e l (m.resolve_right (I j b c e l))
 .by_cases Z3:e=i
  .subst Z3;have:u=W:=by
    obtain⟨_,_,_,a3⟩:=H;rw[he]at a3;injection a3 with N Z1
    injection N with N q3
    injection q3 with _ q3
    exact q3.symm
   subst this;exact d.old
  exact A.old e u H ((A.eff e u H).1 (R e u H Z))
 obtain⟨af,G⟩:=aj f ae;have hK:=A.core f af;have a9:∀c,c<3*(D i).s.n→f.b c=ρ.b c:=fun c B=>(G c Z).1.trans (d.agr c B).1;obtain⟨ay,ar⟩:=K i ac Dh f af
 -- the blocks before the effect
 have av:∀q,((D i).s.h.at q).isSome→q<3*(D i).s.n:=fun q T=>by
  obtain⟨y,hy⟩:=Eg.1 T;exact(a7.nb q y hy).1
 have ad:∀k,(∀q,((D p).s.h.at q).isSome→f.b q≠k)→(∀j b c e,wm C ops D j b c e→p≤j→j<i→In j→f.b b≠k)→∀q,((D i).s.h.at q).isSome→f.b q≠k:=fun k S Z0 q T=>by
  rcases ar q T with g|⟨j,c,e,l,N,Z1⟩
  .exact S q g
  exact Z0 j q c e l N Z1 (a2 j q c e l Z1)
 have P:∀k,k<w.heap.size→(∀q,((D i).s.h.at q).isSome→f.b q≠k)→∀q,((D (i+1)).s.h.at q).isSome→f.b q≠k:=fun k hk g q T=>by
  by_cases hq3:q<3*(D i).s.n
  .apply g;by_cases hqW:q∈W
   .exact d.wmem q hqW
   rw[←d.old q hq3 hqW];exact T
  obtain⟨y,hy⟩:=Eg.1 T;rw[(G q (d.nb q y hy).1).1];rcases d.new q Z T with h4|⟨c,B,h4⟩
  .omega
  rw[h4,←a9 c (d.wlt c B)];exact g c (d.wmem c B)
 have a4:∀k,k<w.heap.size→(∀q,((D i).s.h.at q).isSome→f.b q≠k)→w'.heap[k]?=w.heap[k]?:=fun k hk g=>d.fr k hk fun c B=>by
  rw[←a9 c (d.wlt c B)];exact g c (d.wmem c B)
 refine⟨?_,fun j b c e l hp m=>?_,fun j b1 c1 e1 j' b2 c2 e2 ah ai S Z0 ak am ap=>?_,fun k hk q a8=>?_,fun x hx=>?_⟩
 .rw[hW];exact((a7.trans d).wv Nb.undef).agr2 G
 .have m:=m.resolve_right (I j b c e l);obtain⟨o,ho,r1,r2,r3,r4⟩:=hK.made j b c e l Z m;have F:=(Ei.1 ho).1;have hs:=ad (f.b b) r3 fun j' b' c' Z3 aa S Z0 a0=>hK.apart _ _ _ _ _ _ _ _ aa l S Z a0 m Z;exact⟨o,by rw[a4 _ F hs];exact ho,r1,r2,P _ F hs,r4⟩
 .exact hK.apart _ _ _ _ _ _ _ _ ah ai Z Z (ak.resolve_right (I _ _ _ _ ah)) (am.resolve_right (I _ _ _ _ ai)) ap
 .rw[eS];rcases A.next L hi ab a8 with⟨hd,_,h⟩|⟨hd,h⟩
  .rw[De ⟨hd,by rw[A.size];exact hk⟩,h,d.val Z4 f G]
  rw[CT (fun h=>hd h.1)];exact hK.tmp k hk q h
 obtain⟨m1,m2,m3⟩:=hK.mark x hx;have F:=(Ei.1 m1).1;have hs:=ad x m3 fun j' b' c' Z3 aa S Z0 a0=>by
  obtain⟨_,_,_,_,_,r4⟩:=hK.made _ _ _ _ aa S a0;exact r4 x hx
 exact⟨by rw[a4 _ F hs];exact m1,m2,P _ F hs⟩
theorem J.step(H:EnvOk2 X.E X.P)(Z1:C.E=X.E)(L:Lx X C ops D V M)(g:J X C ops D ρ0 h0 w0 p In Ms a w ρ)(f:i<ops.size)(d:¬In i)(l:∀e∈ops[i].after,Fv .any e=true→In e.on)
  {Z0:Option Nat}{Z3:Nat}{K:Act→World→Prop}{Q:Exit→Act→World→Prop}(F:∀p' a' w' m,J X C ops D ρ0 h0 w0 p' (fun j=>In j∨j=i) Ms a' w' m→K a' w'):
  wpOpIn (Wd Z0) Z3 X.P ops Q i K a w:=by
 have o:=L.cst ops[i] (HQ f);have G:=g.wanted L f d l;unfold wpOpIn;rw[G8 f];simp only;rw[G];have S:=L.stp i f;cases S with
 |skip hw hv hs hl=>
  rw[hw];simp only[FE,if_false];refine⟨fun _ _=>trivial,F p _ w ρ ?_⟩;exact g.quiet L f d l (dq fun _ _ h=>by rw[hw]at h;cases h) (mK fun _ _ h=>by rw[hw]at h;cases h) (fun m _=>by rw[hv];simp) (by rw[hv];exact Nb.undef)
 |pure hw hc2 hc3 hp hs hl=>
  rw[hw];simp only[if_true];have N:yJ X.E ops[i].op (only ops[i] (ev (D i).s.t))=some (V i):=by rw[←Z1,←hp];exact(db fun x hx=>mI hx).symm
  have c:∀m,Lb C ops D p In ρ m→(execOp a.eval ops[i]).run X.P w=.ok (.value (conc m (V i))) w:=fun m A=>by
   rw[uw o (g.evals L f d l A)];exact qU H.toEnvOk w m (fun _=>rfl) N
  have y:Nb (3*(D (i+1)).s.n) (V i):=by
   rw[hs.n];exact eZ H.toEnvOk (mH (g.evnb L f d l)) N
  refine tD o (c ρ Lb.refl) (.inl rfl) (F p _ w ρ ?_);refine g.quiet L f d l (dq fun _ h _=>hc3 h) (mK fun _ h _=>hc2 h) (fun m A=>?_) y;have q:=(c ρ Lb.refl).symm.trans (c m A);injection q with q
  injection q
 |load hw hc u b h hrd hp h1 h2 hs hl=>
  rw[hw];simp only[if_true];obtain⟨c,y⟩:=g.load H Z1 L f d l hw hc hrd hp h1 h2 hl;refine tD o (c ρ Lb.refl) (.inl rfl) (F p _ w ρ ?_);refine g.quiet L f d l (dq fun _ h _=>by rw[hc]at h;cases h) (mK fun _ h _=>by rw[hc]at h;cases h) (fun m A=>?_) (by rw[hs.n];exact y);have q:=(c ρ Lb.refl).symm.trans (c m A);injection q with q
  injection q
 |make hw hc k hm hv hh hn hW ha hl he=>
  rw[hw];simp only[if_true];obtain⟨T,w',a0,c,B⟩:=g.make H Z1 L f d l hw hc hm hv;exact tD o c (.inl rfl) (F p _ w' T B)
 |eff hw hc W hEf h1 h2 h3 h4 hW ha hl he=>
  rw[hw];simp only[if_true];obtain⟨R,y,Z4⟩:=g.effect L f d l hw hc h1 h2 hW he;refine hEf Z0 Z3 a w ρ (g.evals L f d l Lb.refl) (g.evnb L f d l) R y K Q fun ρ1 w' I=>?_;obtain⟨T,B⟩:=Z4 ρ1 w' I;exact F _ _ w' T B
def wj(listed:Array Bool)(j:Nat):Prop:=listed.getD j false=true
def qI(listed:Array Bool):Nat:=listed.toList.countP (fun b=> !b)
theorem pX{c:Array Bool}(d:i<c.size)(h:c[i]=false):qI (c.setIfInBounds i true)+1=qI c:=by
 unfold qI;rw[Array.toList_setIfInBounds];have:∀(l:List Bool) (i:Nat) (d:i<O l),l[i]=false→(l.set i true).countP (fun b=> !b)+1=l.countP (fun b=> !b):=by
  intro l;induction l with
  |nil=>intro i d;simp at d
  |cons b l ih=>
   intro i d f;cases i with
   |zero=>simp at f;subst f;simp
   |succ i=>
    have:=ih i Aw (by simpa using f);simp only[List.set_cons_succ,List.countP_cons];omega
 exact this _ _ Aw AJ
theorem SB(hE:EnvOk2 X.E X.P)(hX:C.E=X.E)(L:Lx X C ops D V M){ro:Option Nat}{kk:Nat}{Q:Exit→Act→World→Prop}{s':St}(a6:(D ops.size).s=s')
  (hQ:∀K w',Lt X C.nt C.n0 ρ0 h0 w0 s' K w'→Q .normal K w'):∀(l:Nat) (listed:Array Bool) (p:Nat) (a:Act) (w:World) (ρ:Ren),listed.size=ops.size→qI listed≤l→J X C ops D ρ0 h0 w0 p (wj listed) Ms a w ρ→
   wpAnyIn (Wd ro) kk X.P .any ops Q l listed a w:=by
 have H:∀(listed:Array Bool) (p:Nat) (a:Act) (w:World) (ρ:Ren),listed.size=ops.size→aa2 .any ops listed=[]→J X C ops D ρ0 h0 w0 p (wj listed) Ms a w ρ→Q .normal a w:=by
  intro listed p a w ρ u q d;have y:∀i,i<ops.size→wj listed i:=by
   intro i;induction i using Hb with
   |ind i ih=>
    intro m;apply DU;intro I;have:i∈aa2 .any ops listed:=by
     rw[mem_ready];refine⟨?_,ops[i],G8 m,fun e G N=>ih e.on (L.down m e G N) (by have:=L.down m e G N;omega)⟩;unfold wj at I;have f:i<listed.size:=Z;simp[f]at I⊢;exact I
    rw[q]at this;cases this
  have A:∀k,Mu ops (wj listed) k ops.size:=fun k=>⟨Dh,fun i m _=>⟨fun _=>m,fun _=>y i m⟩⟩;obtain⟨B,R⟩:=OV L d (ops.size-p) (by have:=d.le;omega) (fun e W G S Z0=>by
   obtain⟨a3,_⟩:=id G;have:=(d.eff e W G).1 (y e a3);omega) (fun j b c e Z1 S Z0=>y j Z1.1) ρ Lb.refl
  rw[show p+(ops.size-p)=ops.size from by have:=d.le;omega]at B R;have T:=d.core ρ Lb.refl;apply hQ;rw[←a6];refine⟨ρ,Ms,⟨d.size,fun k Z4=>T.tmp k Z4 ops.size (A k),fun k Z4=>L.past' Dh Z4⟩,fun k=>d.nb k ops.size (A k),B,d.dfr,d.nd,fun x hx=>?_⟩;obtain⟨m1,m2,m3⟩:=T.mark x hx;refine⟨m1,m2,fun b N=>?_⟩;rcases R b N with g|⟨j,c,e,Z1,S,Z0⟩
  .exact m3 b g
  obtain⟨_,_,_,_,_,r⟩:=T.made j b c e Z1 S (y j Z1.1);exact r x hx
 intro l;induction l with
 |zero=>
  intro listed p a w ρ u hf d;have q:aa2 .any ops listed=[]:=by
   rw[List.eq_nil_iff_forall_not_mem];intro i m;obtain⟨F,o,Z3,_⟩:=mem_ready.1 m;have f:i<listed.size:=by rw[u];exact(Ei.1 Z3).1
   simp[f]at F;have:=pX f F;omega
  exact⟨q,H listed p a w ρ u q d⟩
 |succ l ih=>
  intro listed p a w ρ u hf d;refine⟨fun q=>H listed p a w ρ u q d,fun i m=>?_⟩;obtain⟨F,o,Z3,a5⟩:=mem_ready.1 m;obtain⟨a2,rfl⟩:=Ei.1 Z3;have f:i<listed.size:=Z;simp[f]at F;have a4:¬wj listed i:=by unfold wj;simp[f,F]
  refine d.step hE hX L a2 a4 a5 fun p' K w' ρ' a0=>?_;have a1:=pX f F;refine ih (listed.setIfInBounds i true) p' K w' ρ' (by simpa using u) Z ?_;have e:(fun j=>wj listed j∨j=i)=wj (listed.setIfInBounds i true):=by
   funext j;unfold wj;by_cases e:j=i
   .subst e;simp[f]
   simp only[e,or_false];rw[getD_set_ne false (fun h=>e h.symm)]
  rw[←e];exact a0
theorem jd(hE:EnvOk2 X.E X.P)(hX:C.E=X.E)(hC:CalOk X C.C):tw X C ρ0 h0 w0 regOk:=by
 intro ops S B s s' T ro kk a w Q hI hQ;obtain⟨D,V,d,Z0,F⟩:=Sq hE hX hC ops.toList (wu ops.toList []) 0 _ s' (fun o ho=>B o (by simpa using ho)) T;obtain⟨ρ,Ms,Z4,hn,R,a0,a1,hM⟩:=hI;have l:O ops.toList=ops.size:=by simp
 have L:Lx X C ops D V (fun i=>(wu ops.toList []).getD i 0):=by
  refine⟨fun i g=>?_,fun i g=>?_,fun i g=>?_,S,B,fun k Z1=>?_,by rw[d],by rw[d],by rw[d]⟩
  .obtain⟨m,G,H,_⟩:=F i (by rw[l];exact g);have:(wu ops.toList []).getD i 0=m:=by simp[Ir,G]
   rw[this];simpa using H
  .obtain⟨m,G,_,H⟩:=F i (by rw[l];exact g);simpa using H
  .obtain⟨m,G,_⟩:=F i (by rw[l];exact g);simp[Ir,G]
  rw[d];exact Z4.past k Z1
 have f:∀j,¬wj (Ha ops.size false) j:=fun j=>by
  unfold wj;by_cases h:j<ops.size<;>simp[h]
 have hJ:J X C ops D ρ0 h0 w0 0 (wj (Ha ops.size false)) Ms a {w with drawn:=w.drawn+1} ρ:=by
  refine⟨Di,fun e W _=>⟨fun h=>oU h (f e),fun h=>oU h (Fr _)⟩,fun j b c e _ h=>oU h (Fr _),fun i g h=>oU h (f i),Z4.size,a0,a1,fun k q u=>?_,fun i g=>?_,fun j b c e _ h=>oU h (f j),fun e W _ h=>oU h (Fr _),fun ρ' a2=>?_⟩
  .have Z3:nth (D q).s.t k=nth (D 0).s.t k:=by
    exact Cn
   rw[Z3];have:=L.nle (i:=0) (j:=q) Di u.1;rw[d]at this⊢;exact(hn k).mono (by simp only at this⊢;omega)
  .have:i=0:=Z;subst this;rw[d];exact R.nb
  have A:Lc (3*s.n) ρ ρ':=by have:=a2.1;rw[d]at this;exact this
  refine⟨?_,fun j b c e _ _ h=>oU h (f j),fun j b c e j' b' c' e' _ _ _ _ h=>oU h (f j),fun k Z1 q u=>?_,fun x hx=>?_⟩
  .rw[d];have:=R.agr2 A;exact⟨this.agr,this.le,⟨this.sim.blk,this.sim.inj⟩,this.nb,this.val,this.wlt,this.wmem,this.fr,this.size,this.os,this.tape,this.out,this.new,this.old⟩
  .have Z3:nth (D q).s.t k=nth (D 0).s.t k:=by
    exact Cn
   rw[Z3,d,hn k ρ ρ' A];exact Z4.at_ k Z1
  obtain⟨m1,m2,m3⟩:=hM x hx;refine⟨m1,m2,fun b I=>?_⟩;rw[d]at I;obtain⟨y,hy⟩:=Eg.1 I;rw[(A b (R.nb b y hy).1).1];exact m3 b I
 exact SB hE hX L (by rw[←Z0,l]) hQ ops.size _ 0 a _ ρ cA (by unfold qI;exact Ed List.countP_le_length cA) hJ
end
end Go.GL
/- The evaluator's environment for this seat, laid by program (genenv.py) off the dump; and the proof that it fits the program. -/
namespace Go.Proofs.YtfajmfoofmienaaGreatDoor
open Go Go.GL
variable {α:Type}{N m:Nat}
namespace GE
def nthO{α:Type}:List (Option α)→Nat→Option α
 |[],_=>none
 |v::_,0=>v
 |_::r,i+1=>nthO r i
def nthL{α:Type}:List (List α)→Nat→List α
 |[],_=>[]
 |v::_,0=>v
 |_::r,i+1=>nthL r i
def look{α:Type}(l:List (List (Option α)))(t:Nat):Option α:=nthO (nthL l (t/20)) (t%20)
def oT:Option TD:=some .other
def oF:Option (Nat×Nat×Value):=some (1,8,.nilFunc)
def oS:Option (Nat×Nat×Value):=some (1,24,Y none 0 0)
def undT:List (List (Option TD)):=[[oT,oT,some (.int .i64),some (.int .i64),some .bool,some (.int .u8),some (.int .u8),some (.struct [(2,0),(3,1),(4,2),(6,3)]),some (.struct [(2,0),(3,1),(4,2),(6,3)]),some .string,some .string,some .string,some (.int .u64),some (.struct [(9,0),(12,1)]),some (.struct [(9,0),(12,1)]),oT,oT,oT,some (.struct [(17,0)]),some (.struct [(17,0)])],
 [oT,some (.int .i32),some (.slice 3),some (.slice 9),oT,oT,some (.slice 76),some (.slice 81),some (.struct [(22,0),(3,1),(26,2),(23,3),(27,4)]),some (.struct [(22,0),(3,1),(26,2),(23,3),(27,4)]),oT,oT,oT,oT,oT,some (.slice 51),oT,some (.slice 70),some (.int .i64),oT],
 [oT,oT,oT,oT,oT,oT,oT,some (.slice 151),some (.struct [(4,0),(47,1)]),some (.struct [(4,0),(47,1)]),some (.struct [(49,0),(49,2)]),some (.struct [(49,0),(49,2)]),oT,oT,oT,oT,oT,oT,oT,oT],
 [some (.struct [(37,0),(23,1)]),some (.struct [(37,0),(23,1)]),oT,oT,some (.slice 67),oT,oT,some (.slice 35),oT,some (.struct [(3,0),(3,1),(23,2)]),some (.struct [(3,0),(3,1),(23,2)]),oT,oT,oT,oT,some (.struct [(3,0),(3,1),(3,2),(9,3)]),some (.struct [(3,0),(3,1),(3,2),(9,3)]),oT,oT,oT],
 [some (.struct [(26,0),(23,1),(9,2)]),some (.struct [(26,0),(23,1),(9,2)]),oT,oT,oT,some (.struct [(22,0),(3,1)]),some (.struct [(22,0),(3,1)]),oT,oT,oT,oT,oT,oT,oT,oT,oT,oT,oT,oT,oT],
 [oT,oT,oT,oT,oT,oT,oT,oT,oT,oT,oT,oT,oT,oT,oT,oT,oT,oT,oT,oT],
 [oT,oT,oT,oT,some (.int .u64),oT,oT,oT,oT,oT,some (.struct [(2,0),(2,1)]),some (.struct [(2,0),(2,1)]),oT,oT,oT,some (.slice 164),some (.struct [(4,0),(135,1)]),some (.struct [(4,0),(135,1)]),some (.struct [(137,0),(137,2)]),some (.struct [(137,0),(137,2)])],
 [oT,oT,oT,oT,some (.struct [(70,0),(23,3)]),some (.struct [(70,0),(23,3)]),oT,oT,oT,oT,oT,some (.int .u32),oT,oT,some (.slice 5),oT,oT,oT,oT,oT],
 [oT,oT,oT,oT,some (.int .u64),oT,oT,oT,oT,oT,some (.struct [(4,0),(9,1),(9,2)]),some (.struct [(4,0),(9,1),(9,2)]),oT,oT,oT,oT,oT,oT,oT,oT],
 [oT,oT,oT,some (.array 48 5),oT,oT,oT,oT,oT,oT,oT,oT,oT,oT,oT,oT,some (.slice 139),oT,oT,oT],
 [oT,oT,oT,oT,some (.struct [(3,0),(3,1),(203,2),(137,3),(196,5),(196,6)]),some (.struct [(3,0),(3,1),(203,2),(137,3),(196,5),(196,6)]),oT,oT,oT,oT,oT,oT,oT,oT,oT,oT,oT,oT,oT,oT],
 [oT,oT,oT,oT,oT,oT,oT,oT,oT,oT,oT,oT,oT,oT,oT,oT,some (.slice 135),oT,oT,some (.struct [(164,0),(164,1),(164,2),(164,3),(4,4)])],
 [some (.struct [(164,0),(164,1),(164,2),(164,3),(4,4)]),oT,oT,oT,oT,oT,oT,oT,oT,some (.array 24 5),oT,oT,oT,oT,oT,oT,oT,oT,oT,oT],
 [oT,some (.slice 137),oT,some (.struct [(3,0),(261,1),(196,2)]),some (.struct [(3,0),(261,1),(196,2)]),oT,oT,oT,oT,some (.array 20 164),some (.array 65 5),oT,oT,oT,oT,oT,oT,oT,oT,some (.struct [(135,0),(135,1)])],
 [some (.struct [(135,0),(135,1)]),oT,oT,oT,oT,oT,oT,oT,some (.array 64 5),oT,oT,oT,some (.array 20 5),oT,oT,oT,oT,some (.array 32 5),oT,some (.struct [(17,0),(17,1),(17,2),(9,3)])],
 [some (.struct [(17,0),(17,1),(17,2),(9,3)]),some (.array 0 16),some (.struct [(301,0)]),some (.struct [(301,0)]),some (.int .u8),some (.int .u8),oT,oT,some (.int .i32),some (.int .i32),some (.struct [(12,0),(12,1),(151,2),(304,3),(5,4),(5,5),(305,6),(306,7),(307,8),(308,9),(309,10)]),some (.struct [(12,0),(12,1),(151,2),(304,3),(5,4),(5,5),(305,6),(306,7),(307,8),(308,9),(309,10)]),oT,oT,some (.struct [(9,0)]),some (.struct [(9,0)]),oT]]
def infT:List (List (Option (Nat×Nat×Value))):=[[some (1,0,.tuple #[]),oF,some (1,8,U .i64 0),some (1,8,U .i64 0),some (1,1,Dk false),some (1,1,U .u8 0),some (1,1,U .u8 0),some (4,24,.agg #[U .i64 0,U .i64 0,Dk false,U .u8 0]),some (4,24,.agg #[U .i64 0,U .i64 0,Dk false,U .u8 0]),some (1,16,Dl ⟨⟨[]⟩⟩),some (1,16,Dl ⟨⟨[]⟩⟩),some (1,16,Dl ⟨⟨[]⟩⟩),some (1,8,U .u64 0),some (2,24,.agg #[Dl ⟨⟨[]⟩⟩,U .u64 0]),some (2,24,.agg #[Dl ⟨⟨[]⟩⟩,U .u64 0]),some (1,8,Dn none),some (1,8,Dn none),some (1,8,Dn none),some (1,8,.agg #[Dn none]),some (1,8,.agg #[Dn none])],
 [some (1,16,.nilIface),some (1,4,U .i32 0),oS,oS,some (1,8,Dn none),oF,oS,oS,some (5,104,.agg #[Y none 0 0,U .i64 0,Y none 0 0,Y none 0 0,Y none 0 0]),some (5,104,.agg #[Y none 0 0,U .i64 0,Y none 0 0,Y none 0 0,Y none 0 0]),oF,oF,oF,oF,oF,oS,oF,oS,some (1,8,U .i64 0),none],
 [oF,none,oF,none,oF,none,oF,oS,some (2,32,.agg #[Dk false,Y none 0 0]),some (2,32,.agg #[Dk false,Y none 0 0]),some (4,64,.agg #[Dk false,Y none 0 0,Dk false,Y none 0 0]),some (4,64,.agg #[Dk false,Y none 0 0,Dk false,Y none 0 0]),none,oF,oF,oF,oF,oF,oF,oF],
 [some (2,48,.agg #[Y none 0 0,Y none 0 0]),some (2,48,.agg #[Y none 0 0,Y none 0 0]),oF,oF,oS,none,oF,oS,oF,some (3,40,.agg #[U .i64 0,U .i64 0,Y none 0 0]),some (3,40,.agg #[U .i64 0,U .i64 0,Y none 0 0]),oF,oF,oF,oF,some (4,40,.agg #[U .i64 0,U .i64 0,U .i64 0,Dl ⟨⟨[]⟩⟩]),some (4,40,.agg #[U .i64 0,U .i64 0,U .i64 0,Dl ⟨⟨[]⟩⟩]),oF,oF,oF],
 [some (3,64,.agg #[Y none 0 0,Y none 0 0,Dl ⟨⟨[]⟩⟩]),some (3,64,.agg #[Y none 0 0,Y none 0 0,Dl ⟨⟨[]⟩⟩]),oF,oF,oF,some (2,32,.agg #[Y none 0 0,U .i64 0]),some (2,32,.agg #[Y none 0 0,U .i64 0]),oF,oF,oF,oF,oF,oF,oF,oF,oF,oF,oF,oF,none],
 [oF,oF,oF,oF,oF,oF,none,oF,oF,oF,oF,oF,oF,oF,oF,oF,oF,oF,oF,oF],
 [oF,oF,oF,oF,some (1,8,U .u64 0),none,oF,oF,oF,oF,some (2,16,.agg #[U .i64 0,U .i64 0]),some (2,16,.agg #[U .i64 0,U .i64 0]),none,oF,oF,oS,some (2,32,.agg #[Dk false,Y none 0 0]),some (2,32,.agg #[Dk false,Y none 0 0]),some (4,64,.agg #[Dk false,Y none 0 0,Dk false,Y none 0 0]),some (4,64,.agg #[Dk false,Y none 0 0,Dk false,Y none 0 0])],
 [oF,oF,oF,oF,some (4,64,.agg #[U .i64 0,U .i64 0,Y none 0 0,Y none 0 0]),some (4,64,.agg #[U .i64 0,U .i64 0,Y none 0 0,Y none 0 0]),none,oF,none,oF,oF,some (1,4,U .u32 0),none,oF,oS,none,oF,oF,oF,oF],
 [oF,oF,none,oF,some (1,8,U .u64 0),oF,oF,oF,none,oF,some (3,40,.agg #[Dk false,Dl ⟨⟨[]⟩⟩,Dl ⟨⟨[]⟩⟩]),some (3,40,.agg #[Dk false,Dl ⟨⟨[]⟩⟩,Dl ⟨⟨[]⟩⟩]),none,oF,oF,oF,none,oF,none,oF],
 [oF,oF,oF,some (48,48,.agg ⟨Dp 48 (U .u8 0)⟩),oF,none,oF,oF,none,oF,oF,oF,none,oF,oF,oF,oS,none,oF,some (1,8,Dn none)],
 [none,oF,oF,some (1,8,Dn none),some (7,104,.agg #[U .i64 0,U .i64 0,Dn none,Dk false,Y none 0 0,Y none 0 0,Y none 0 0]),some (7,104,.agg #[U .i64 0,U .i64 0,Dn none,Dk false,Y none 0 0,Y none 0 0,Y none 0 0]),none,oF,oF,none,oF,none,oF,oF,none,oF,none,oF,oF,oF],
 [oF,oF,oF,oF,oF,none,oF,oF,oF,none,oF,oF,oF,oF,oF,oF,oS,oF,oF,some (5,40,.agg #[U .u64 0,U .u64 0,U .u64 0,U .u64 0,Dk false])],
 [some (5,40,.agg #[U .u64 0,U .u64 0,U .u64 0,U .u64 0,Dk false]),oF,none,oF,oF,oF,oF,oF,oF,some (24,24,.agg ⟨Dp 24 (U .u8 0)⟩),oF,oF,none,oF,oF,oF,oF,oF,oF,oF],
 [oF,oS,oF,some (3,56,.agg #[U .i64 0,Y none 0 0,Y none 0 0]),some (3,56,.agg #[U .i64 0,Y none 0 0,Y none 0 0]),oF,oF,oF,oF,some (20,160,.agg ⟨Dp 20 (U .u64 0)⟩),some (65,65,.agg ⟨Dp 65 (U .u8 0)⟩),oF,oF,oF,oF,oF,oF,oF,oF,some (2,48,.agg #[Y none 0 0,Y none 0 0])],
 [some (2,48,.agg #[Y none 0 0,Y none 0 0]),oF,oF,oF,oF,none,oF,oF,some (64,64,.agg ⟨Dp 64 (U .u8 0)⟩),some (1,16,.nilIface),some (1,16,.nilIface),oF,some (20,20,.agg ⟨Dp 20 (U .u8 0)⟩),oF,oF,some (1,8,Dn none),oF,some (32,32,.agg ⟨Dp 32 (U .u8 0)⟩),some (1,8,Dn none),some (4,40,.agg #[Dn none,Dn none,Dn none,Dl ⟨⟨[]⟩⟩])],
 [some (4,40,.agg #[Dn none,Dn none,Dn none,Dl ⟨⟨[]⟩⟩]),some (0,0,.agg #[]),some (0,0,.agg #[]),some (0,0,.agg #[]),some (1,1,U .u8 0),some (1,1,U .u8 0),oF,some (1,8,Dn none),some (1,4,U .i32 0),some (1,4,U .i32 0),some (11,48,.agg #[U .u64 0,U .u64 0,U .u32 0,U .u8 0,U .u8 0,U .u8 0,U .u8 0,.nilFunc,Dn none,U .i32 0,U .i32 0]),some (11,48,.agg #[U .u64 0,U .u64 0,U .u32 0,U .u8 0,U .u8 0,U .u8 0,U .u8 0,.nilFunc,Dn none,U .i32 0,U .i32 0]),oF,oF,some (1,16,.agg #[Dl ⟨⟨[]⟩⟩]),some (1,16,.agg #[Dl ⟨⟨[]⟩⟩]),some (1,8,Dn none)]]
def cmpT:List (List (Option (List (TypeId×Nat)))):=[[],
 [],
 [],
 [],
 [],
 [],
 [],
 [],
 [],
 [],
 [],
 [],
 [],
 [],
 [],
 []]
open Tryz in
noncomputable def fnT:List (List (Option Func)):=[[none,none,none,some f3,some f4,some f5,some f6,some f7,some f8,some f9,some f10,some f11,some f12,some f13,some f14,some f15,some f16,some f17,some f18,some f19],
 [some f20,some f21,some f22,some f23,some f24,some f25,some f26,some f27,some f28,some f29,some f30,some f31,some f32,some f33,some f34,some f35,some f36,some f37,some f38,some f39],
 [some f40,some f41,some f42,some f43,some f44,some f45,some f46,some f47,some f48,some f49,some f50,some f51,some f52,some f53,some f54,some f55,some f56,some f57,some f58,some f59],
 [some f60,some f61,some f62,some f63,some f64,some f65,some f66,some f67,some f68,some f69,some f70,some f71,some f72,some f73,some f74,some f75,some f76,some f77,some f78,some f79],
 [some f80,some f81,some f82,some f83,some f84,some f85,some f86,some f87,some f88,some f89,some f90,some f91,some f92,some f93,some f94,some f95,some f96,some f97,some f98,some f99],
 [some f100,some f101,some f102,some f103,some f104,some f105,some f106,some f107,some f108,some f109,some f110,some f111,some f112,some f113,some f114,some f115,some f116,some f117,some f118,some f119],
 [some f120,some f121,some f122,some f123,some f124,some f125,some f126,some f127,some f128,some f129,some f130,some f131,some f132,some f133,some f134,some f135,some f136,some f137,some f138,some f139],
 [some f140,some f141,some f142,some f143,some f144,some f145,some f146,some f147,some f148,some f149,some f150,some f151,some f152,some f153,some f154,some f155,some f156,some f157,some f158,some f159],
 [some f160,some f161,some f162,some f163,some f164,some f165,some f166,some f167,some f168,some f169,some f170,some f171,some f172,some f173,some f174,some f175,some f176,some f177,some f178,some f179],
 [some f180,some f181,some f182,some f183,some f184,some f185,some f186,some f187,some f188,some f189,some f190,some f191,some f192,some f193,some f194,some f195,some f196,some f197,some f198,some f199],
 [some f200,some f201,some f202,some f203,some f204,some f205,some f206,some f207,some f208,some f209,some f210,some f211,some f212,some f213,none,some f215,some f216,some f217,some f218,some f219],
 [some f220,some f221,none,some f223,some f224,some f225,some f226,some f227,some f228,some f229,some f230,some f231,some f232,some f233,some f234,some f235,some f236,some f237,some f238,some f239],
 [some f240,some f241,some f242,some f243,some f244,some f245,some f246,some f247,some f248,none,none,none,none,none,none,none,none,none,none,none],
 []]
def ext(f:FuncId)(a:List Value):Option Value:=
 match Eh f 222 with
 |true=>(match a with
  |[U .u64 (.ofNat x),U .u64 (.ofNat y),U .u64 (.ofNat c)]=>(match DX c 1 with|true=>some (.tuple ⟨[U .u64 (.ofNat ((x+y+c)%18446744073709551616)),U .u64 (.ofNat ((x+y+c)/18446744073709551616))]⟩)|false=>none)
  |_=>none)
 |false=>match Eh f 214 with
  |true=>(match a with
   |[U .u64 (.ofNat x),U .u64 (.ofNat y),U .u64 (.ofNat b)]=>(match DX b 1 with|true=>some (.tuple ⟨[U .u64 (.ofNat ((x+18446744073709551616-y-b)%18446744073709551616)),U .u64 (.ofNat (match DX (y+b) x with|true=>0|false=>1))]⟩)|false=>none)
   |_=>none)
  |false=>none
end GE
noncomputable def KT:Env:={und:=GE.look GE.undT,inf:=GE.look GE.infT,fn:=GE.look GE.fnT,ext:=GE.ext,dT:=9,pure:=fun _=>true,cmp:=GE.look GE.cmpT}
namespace GE
theorem SC:∀(l:List (List α)) (i:Nat),O l≤i→nthL l i=[]:=by
 intro l
 induction l with
 |nil=>intro i _;rfl
 |cons a l ih=>
  intro i b
  cases i with
  |zero=>simp at b
  |succ i=>exact ih i (by simpa using b)
theorem look_lt{l:List (List (Option α))}{t:Nat}{v:α}(b:O l=m)(h:look l t=some v):t<20*m:=by
 apply Gm
 intro a
 unfold look at h
 rw[SC l (t/20) Z]at h
 cases h
def pick{α β:Type}(a:Option α)(b:Option β):Option β:=match a with|some _=>b|none=>none
theorem at_range{f g:Nat→α}(h:(D9 N).map f=(D9 N).map g){t:Nat}(a:t<N):f t=g t:=by
 have:=congrArg (fun l=>l[t]?) h
 simpa [a]using this
theorem all_range{f:Nat→Bool}(h:(D9 N).all f=true){t:Nat}(a:t<N):f t=true:=by
 rw[Fy]at h
 exact h t (by simpa using a)
theorem undT_len:O undT=16:=rfl
theorem cmpT_len:O cmpT=16:=rfl
theorem infT_len:O infT=16:=rfl
theorem fnT_len:O fnT=14:=rfl
set_option maxRecDepth 1000000
theorem und_all:(D9 320).map (fun t=>pick (look undT t) ((D6.underlying t).map TD.of))=(D9 320).map (look undT):=by kernel_rfl
theorem inf_all:(D9 320).map (fun t=>pick (look infT t) ((D6.info? t).bind fun i=>i.zero.map fun z=>(i.size,i.bytes,z)))=(D9 320).map (look infT):=by kernel_rfl
noncomputable def cmpP(t:Nat):Option (List (TypeId×Nat)):=
 match D6.underlying t with
 |some (.struct F)=>(match F.toList.all (fun f=> !(f.name== "_"))&&(!Tryz.prog.stoodInHeld t&& !Tryz.prog.eqGuardType D6.depth t) with|true=>some (F.toList.map fun f=>(f.type,f.offset))|false=>none)
 |_=>none
theorem cmp_all:(D9 320).map (fun t=>pick (look cmpT t) (cmpP t))=(D9 320).map (look cmpT):=by kernel_rfl
theorem inf_closed:(D9 320).all (fun t=>match look infT t with|some (_,_,z)=>closed z|none=>true)=true:=by kernel_rfl
theorem fld_all:(D9 320).all (fun t=>match look undT t with|some (.struct fs)=>fs.all (fun f=>(look infT f.1).isSome)|_=>true)=true:=by kernel_rfl
theorem fn_all:(D9 280).map (fun f=>pick (look fnT f) (D6.funcs[f]?))=(D9 280).map (look fnT):=by kernel_rfl
theorem fn_body:(D9 280).all (fun f=>match look fnT f with|some fn=>fn.body.isSome&& !(fn.name== "runtime.NumGoroutine")|none=>true)=true:=by kernel_rfl
theorem fn_code:(D9 280).all (fun f=>match look fnT f with|some fn=>(match fn.body with|some c=>xM regOk c|none=>true)|none=>true)=true:=by kernel_rfl
theorem mixed:D6.follows .mixedOrders=true:=by kernel_rfl
theorem SD(x y:Nat)(w:World):(callFunc 222 #[U .u64 (.ofNat x),U .u64 (.ofNat y),U .u64 (.ofNat 0)]).run D6 w=.ok (.value (.tuple ⟨[U .u64 (.ofNat ((x+y+0)%18446744073709551616)),U .u64 (.ofNat ((x+y+0)/18446744073709551616))]⟩)) w:=by kernel_rfl
theorem SE(x y:Nat)(w:World):(callFunc 222 #[U .u64 (.ofNat x),U .u64 (.ofNat y),U .u64 (.ofNat 1)]).run D6 w=.ok (.value (.tuple ⟨[U .u64 (.ofNat ((x+y+1)%18446744073709551616)),U .u64 (.ofNat ((x+y+1)/18446744073709551616))]⟩)) w:=by kernel_rfl
theorem SF(x y c:Nat)(b:c≤1)(w:World):(callFunc 222 #[U .u64 (.ofNat x),U .u64 (.ofNat y),U .u64 (.ofNat c)]).run D6 w=.ok (.value (.tuple ⟨[U .u64 (.ofNat ((x+y+c)%18446744073709551616)),U .u64 (.ofNat ((x+y+c)/18446744073709551616))]⟩)) w:=by
 have a:c=0∨c=1:=Z
 rcases a with rfl|rfl
 .exact SD x y w
 exact SE x y w
theorem SG(x y:Nat)(w:World):(callFunc 214 #[U .u64 (.ofNat x),U .u64 (.ofNat y),U .u64 (.ofNat 0)]).run D6 w=.ok (.value (.tuple ⟨[U .u64 (.ofNat ((x+18446744073709551616-y-0)%18446744073709551616)),U .u64 (.ofNat (if x<y+0 then 1 else 0))]⟩)) w:=by kernel_rfl
theorem SH(x y:Nat)(w:World):(callFunc 214 #[U .u64 (.ofNat x),U .u64 (.ofNat y),U .u64 (.ofNat 1)]).run D6 w=.ok (.value (.tuple ⟨[U .u64 (.ofNat ((x+18446744073709551616-y-1)%18446744073709551616)),U .u64 (.ofNat (if x<y+1 then 1 else 0))]⟩)) w:=by kernel_rfl
theorem SI(x y c:Nat)(b:c≤1)(w:World):(callFunc 214 #[U .u64 (.ofNat x),U .u64 (.ofNat y),U .u64 (.ofNat c)]).run D6 w=.ok (.value (.tuple ⟨[U .u64 (.ofNat ((x+18446744073709551616-y-c)%18446744073709551616)),U .u64 (.ofNat (match DX (y+c) x with|true=>0|false=>1))]⟩)) w:=by
 have a:c=0∨c=1:=Z
 have e:(match DX (y+c) x with|true=>0|false=>1)=if x<y+c then 1 else 0:=by
  by_cases h:x<y+c
  .have:DX (y+c) x=false:=by
    cases hb:DX (y+c) x with
    |false=>rfl
    |true=>have:=D5 hb;omega
   rw[this,De h]
  rw[Dv Z,CT h]
 rw[e]
 rcases a with rfl|rfl
 .exact SG x y w
 exact SH x y w
theorem ext_ok(f:FuncId)(a:List Value)(v:Value)(h:ext f a=some v):(∀x∈a,closed x=true)∧closed v=true∧∀w,(callFunc f a.toArray).run D6 w=.ok (.value v) w:=by
 unfold ext at h
 split at h
 .rename_i b
  have b:=Eb b
  subst b
  split at h
  .rename_i x y c
   split at h
   .rename_i hc
    injection h with h
    subst h
    exact⟨fun z d=>by simp at d;rcases d with rfl|rfl|rfl<;>rfl,rfl,fun w=>SF x y c (D5 hc) w⟩
   cases h
  cases h
 split at h
 .rename_i b
  have b:=Eb b
  subst b
  split at h
  .rename_i x y c
   split at h
   .rename_i hc
    injection h with h
    subst h
    exact⟨fun z d=>by simp at d;rcases d with rfl|rfl|rfl<;>rfl,rfl,fun w=>SI x y c (D5 hc) w⟩
   cases h
  cases h
 cases h
end GE
theorem Nd:EnvOk2 KT D6 where
 und t d h:=by
  have hlt:=GE.look_lt GE.undT_len h
  have e:=GE.at_range GE.und_all hlt
  rw[show GE.look GE.undT t=some d from h]at e
  simp only[GE.pick,HE]at e
  exact e
 fld t fs h f hf:=by
  have hlt:=GE.look_lt GE.undT_len h
  have e:=GE.all_range GE.fld_all hlt
  rw[show GE.look GE.undT t=some (.struct fs)from h]at e
  simp only[Fy]at e
  exact Eg.1 (e f hf)
 inf t s b z h:=by
  have hlt:=GE.look_lt GE.infT_len h
  have e:=GE.at_range GE.inf_all hlt
  have c:=GE.all_range GE.inf_closed hlt
  rw[show GE.look GE.infT t=some (s,b,z)from h]at e c
  simp only[GE.pick,Option.bind_eq_some_iff,HE,Prod.mk.injEq]at e
  obtain⟨i,h1,z',h2,h3,h4,h5⟩:=e
  subst h5
  exact⟨⟨i,h1,h3,h4,h2⟩,c⟩
 cmp t fs h:=by
  have hlt:=GE.look_lt GE.cmpT_len h
  have e:=GE.at_range GE.cmp_all hlt
  rw[show GE.look GE.cmpT t=some fs from h]at e
  simp only[GE.pick]at e
  unfold GE.cmpP at e
  split at e
  .rename_i F hF
   split at e
   .rename_i hc
    injection e with e
    simp only[Ew,FY,Fy]at hc
    exact⟨F,hF,e.symm,fun f hf=>by simpa using hc.1 f hf,hc.2.1,hc.2.2⟩
   cases e
  cases e
 get f fn h:=by
  have hlt:=GE.look_lt GE.fnT_len h
  have e:=GE.at_range GE.fn_all hlt
  rw[show GE.look GE.fnT f=some fn from h]at e
  exact e
 ent f fn h args w:=by
  have hlt:=GE.look_lt GE.fnT_len h
  have e:=GE.at_range GE.fn_all hlt
  have c:=GE.all_range GE.fn_body hlt
  rw[show GE.look GE.fnT f=some fn from h]at e c
  have e:D6.funcs[f]?=some fn:=e
  simp only[Ew,FY]at c
  obtain⟨b,hb⟩:=Eg.1 c.1
  have c2:¬fn.name= "runtime.NumGoroutine" :=by simpa using c.2
  simp[callFunc,e,c2,hb]
 ext f args v h:=GE.ext_ok f args v h
 mixed:=GE.mixed
theorem OW:∀f a c,KT.fn f=some a→a.body=some c→xM regOk c=true:=fun f a c h d=>by
 have b:=GE.look_lt GE.fnT_len h
 have e:=GE.all_range GE.fn_code b
 rw[show GE.look GE.fnT f=some a from h]at e
 simp only[d]at e
 exact e
noncomputable def Mv:Rel:={E:=KT,P:=D6,ok:=fun c=>xM regOk c=true}
theorem OX(L d:Nat):CalOk Mv (calN KT L d):=
 Sk (X:=Mv) (reg:=regOk) Nd L (fun _=>Iff.rfl) OW (fun C f c e b a=>jd Nd b a) d
end Go.Proofs.YtfajmfoofmienaaGreatDoor
