import GoSem.Dispatch
import GoSem.Machine.Frame
import Derived.RangeFuncIn
import Derived.OrdersIn
import Derived.Laws.OwnMore
import Derived.Lib.Strings
import Derived.Lib.IndexBytes
import Derived.Laws.StructEq
import Derived.Laws.BytesArg
import Derived.Laws.Append
import Derived.Laws.MakeOwn
import Derived.RangeFuncLeaves
import Derived.RangeFuncRecord
import Derived.RangeFuncCalls
import Derived.Test.YtdeaddceicfanaaGreatDoorProg
import Derived.KernelRfl
open Option renaming some→ξ,none→θ
open Bool renaming true→φ,false→χ
open Go renaming Value→ψ
set_option linter.defProp false
open Array renaming ext'→F7,foldl_toList→JZ,getElem?_eq_getElem→Hl,getElem?_eq_none→FU,getElem?_eq_some_iff→Dv,getElem?_modify→Jw,getElem?_push→JO,getElem?_setIfInBounds_ne→Gv,getElem?_toList→HU,getElem_mem→G1,map→ad2,mapM_eq_mapM_toList→IE,map_congr_left→JA,mem_iff_getElem→Jx,range→ae7,replicate→Ge
open BitVec renaming ofInt→Fl
open Bool renaming and_eq_true→DI,eq_iff_iff→If,false_eq_true→Ew,not_eq_true'→Fa,not_true→H3,or_eq_true→Hu,rec→Hq
open ByteArray renaming ext→ak1
open Classical renaming byContradiction→CW
open Go renaming isAgg→ah9
open Go.Act renaming eval→Iw,put→am4
open Go.Addr renaming add→FF
open Go.Builtin renaming append_→GV,copy_→Hr,firstCells→EW,lenOf→H4,len_→Ji,max_→am0,min_→al9,zeroCells→Gj
open Go.ByteArray renaming toList_eq→Hm
open Go.Call renaming operands→ak6
open Go.Conv renaming stringToBytes→J0
open Go.Deferred renaming ofValue→HX
open Go.Fence renaming wide→Fx
open Go.Frame renaming atR→au0
open Go.Instr renaming build→ae6,extract→ak3,field→ao5,fieldAt→ak2,fill→ai2,index→ae5,indexAt→JU,loadAt→am2,slice→IK,sliceAt→Gr,sliceBound→Hg,sliceBounds→IJ,sureAddr→G4,yield→ae9
open Go.IntKind renaming u8→aq6
open Go.Lib renaming extract_data→ad1
open Go.Op renaming eqFields→ae2,equalIn→Iv,intArith→ae3,maxDepth→ao4,operands→FL,stringOp→ae4
open Go.Oper renaming semAt_eq→H5
open Go.Proofs.Tryz renaming prog→Db
open Go.Question renaming cut→am1,forced→ag1
open Go.Region renaming binds→Ez,ready→ab4,wanted→H6
open Go.Result renaming andThen_ok→DG
open Go.Sem renaming run_bind→D8,run_pure→FV
open Go.StepsIn renaming trans→ak4
open Go.Value renaming bool→U,cells→ES,func→HY,int→CC,oneCell'→E1,pointer→CH,slice→Y,string→CG
open Go.World renaming cell?→IL,putObj_heap_other→Fs,setCell→JV
open Go.stepG renaming exec→aq8
open Int renaming negSucc_eq→ai0
open List renaming all_eq_true→E3,drop_set_of_lt→FA,foldl_cons→Ig,getD→Iu,getElem?_append_left→DW,getElem?_eq_getElem→CD,getElem?_eq_some_iff→CK,length→O,length_cons→DJ,map→ab2,mapM_cons→Jy,map_append→Eu,map_congr_left→D5,map_cons→Gq,map_drop→H2,map_id→HB,map_inj_left→IM,map_take→F2,map_toArray→I0,mem_append→DQ,mem_cons→De,mem_map→DL,mem_of_mem_take→Dp,nodup_cons→Ih,nodup_nil→Ix,not_mem_nil→CO,pairwise_cons→J1,range→DO,range'→Jz,replicate→CI,take_set_of_le→JN,take_succ_eq_append_getElem→Fb
open List.Pairwise renaming nil→ar9
open Nat renaming add_mul→Dq,add_zero→DE,beq→DK,ble→Dd,ble_eq_true_of_le→CP,blt→HI,eq_of_beq_eq_true→DC,le_add_right→F5,le_of_ble_eq_true→Da,le_of_not_lt→GC,le_refl→Ej,le_trans→CU,lt_irrefl→H7,lt_of_lt_of_le→CS,lt_of_not_le→F3,lt_or_gt_of_ne→Hw,min→Jh,ne_of_beq_eq_false→GJ,not_lt→aa0,not_lt_zero→DM,rec→II,strongRecOn→Gf,succ_mul→EI,zero_add→C9
open Option renaming bind_some→Hh,isSome_iff_exists→Do,map_eq_some_iff→En
open UInt8 renaming ofNat→Ec
set_option maxHeartbeats 8000000
set_option linter.unusedVariables false
set_option linter.unusedSimpArgs false
noncomputable section
namespace Go
theorem ω{α:Sort _}{a:α}:a=a:=rfl
abbrev η:Go.Value:=.slice .none 0 0
abbrev ε(b:Nat):Go.Value:=.pointer (.some ⟨b,0,.none⟩)
abbrev ι:=Go.Value.int .u64
abbrev υ:=Go.Value.int .i64
abbrev ν:=Go.Value.int .u32
abbrev Γ:=Go.Value.int .u8
def BG {p:Prop}[i:Decidable p](h:¬p):decide p=χ:=decide_eq_false h
def Ct {p:Prop}[i:Decidable p](h:p):decide p=φ:=decide_eq_true h
def Cu {a b:Prop}(h:a)(g:¬a):b:=absurd h g
def Cv {c:Prop}{i:Decidable c}(h:¬c){α:Sort _}{t e:α}:(ite c t e)=e:=if_neg h
def Cw {c:Prop}{i:Decidable c}(h:c){α:Sort _}{t e:α}:(ite c t e)=t:=if_pos h
def Cx:True:=trivial
def Cy {n:Nat}:n<=n:=Ej n
def Cz {n:Nat}:0<=n:=Nat.zero_le n
def CA {p:Prop}(h:p:=by simp):p:=h
def Z{p:Prop}(h:p:=by omega):p:=h
def zd{p:Prop}(h:p:=by decide):p:=h
def Zq{n : Nat} : n <= n + 1 := Nat.le_succ n
def zb{a b:Nat}(h:Nat.ble a b=φ:=by rfl):a<=b:=Nat.le_of_ble_eq_true h
section
variable{A B C D E F G H I J K L M N O P Q:Sort _}{a:A}{b:B}{c:C}{d:D}{e:E}{f:F}{g:G}{h:H}{i:I}{j:J}{k:K}{l:L}{m:M}{n:N}{o:O}{p:P}{q:Q}
def R2:a=a/\b=b:=⟨ω,ω⟩
def R3:a=a/\b=b/\c=c:=⟨ω,ω,ω⟩
def R4:a=a/\b=b/\c=c/\d=d:=⟨ω,ω,ω,ω⟩
def R5:a=a/\b=b/\c=c/\d=d/\e=e:=⟨ω,ω,ω,ω,ω⟩
def R6:a=a/\b=b/\c=c/\d=d/\e=e/\f=f:=⟨ω,ω,ω,ω,ω,ω⟩
def R7:a=a/\b=b/\c=c/\d=d/\e=e/\f=f/\g=g:=⟨ω,ω,ω,ω,ω,ω,ω⟩
def R8:a=a/\b=b/\c=c/\d=d/\e=e/\f=f/\g=g/\h=h:=⟨ω,ω,ω,ω,ω,ω,ω,ω⟩
def R9:a=a/\b=b/\c=c/\d=d/\e=e/\f=f/\g=g/\h=h/\i=i:=⟨ω,ω,ω,ω,ω,ω,ω,ω,ω⟩
def P2:a=a/\b=b/\True:=⟨ω,ω,Cx⟩
def P3:a=a/\b=b/\c=c/\True:=⟨ω,ω,ω,Cx⟩
def P4:a=a/\b=b/\c=c/\d=d/\True:=⟨ω,ω,ω,ω,Cx⟩
def P5:a=a/\b=b/\c=c/\d=d/\e=e/\True:=⟨ω,ω,ω,ω,ω,Cx⟩
def P6:a=a/\b=b/\c=c/\d=d/\e=e/\f=f/\True:=⟨ω,ω,ω,ω,ω,ω,Cx⟩
def P7:a=a/\b=b/\c=c/\d=d/\e=e/\f=f/\g=g/\True:=⟨ω,ω,ω,ω,ω,ω,ω,Cx⟩
def P8:a=a/\b=b/\c=c/\d=d/\e=e/\f=f/\g=g/\h=h/\True:=⟨ω,ω,ω,ω,ω,ω,ω,ω,Cx⟩
def P9:a=a/\b=b/\c=c/\d=d/\e=e/\f=f/\g=g/\h=h/\i=i/\True:=⟨ω,ω,ω,ω,ω,ω,ω,ω,ω,Cx⟩
def Vh:a=a/\b=b/\c=c/\d=d/\e=e/\f=f/\g=g/\h=h/\i=i/\j=j/\True:=⟨ω,ω,ω,ω,ω,ω,ω,ω,ω,ω,Cx⟩
def Vi:a=a/\b=b/\c=c/\d=d/\e=e/\f=f/\g=g/\h=h/\i=i/\j=j/\k=k/\l=l/\True:=⟨ω,ω,ω,ω,ω,ω,ω,ω,ω,ω,ω,ω,Cx⟩
def Qx:a=a/\b=b/\c=c/\d=d/\e=e/\f=f/\g=g/\h=h/\i=i/\j=j/\k=k/\l=l/\m=m/\n=n/\o=o/\p=p/\q=q/\True:=⟨ω,ω,ω,ω,ω,ω,ω,ω,ω,ω,ω,ω,ω,ω,ω,ω,ω,Cx⟩
end
section
variable{p:Prop}
def A0(h:p:=by simp[q13]):p:=h
def A1(h:p:=by simp[a]):p:=h
def A2(h:p:=by rw[p];rfl):p:=h
def A3(h:p:=by rw[xE];omega):p:=h
def A4(h:p:=by have:=a.ge;have:=b.ge;omega):p:=h
def A6(h:p:=by have:=a.lt;have:=b.lt;omega):p:=h
def A7(h:p:=by show(a.set _ _).length=_;rw[List.length_set];exact s):p:=h
def A9(h:p:=by show 3*n<=3*(d+1)+2;omega):p:=h
def AA(h:p:=by simp[dv]):p:=h
def AB(h:p:=by rw[hv.cols];exact c.n1):p:=h
def AC(h:p:=by show Z3.length-0<LL;unfold LL;omega):p:=h
def AD(h:p:=by show Value.bool (decide _)=_;rw[decide_eq_true (Int.ofNat_lt.2 htest)]):p:=h
def AE(h:p:=by show j<j+1;omega):p:=h
def AF(h:p:=by rw[e];rfl):p:=h
def AG(h:p:=by show C.length-0<LL;unfold LL;omega):p:=h
def AH(h:p:=by show X.length-0<LL;unfold LL;omega):p:=h
def AI(h:p:=by show 3*n<=3*g+2;omega):p:=h
def AJ(h:p:=by trivial):p:=h
def AK(h:p:=by show Value.pointer (ξ ⟨3*n+2,0+z*4,θ⟩)=_;rw[Nat.zero_add]):p:=h
def AL(h:p:=by have:=q.den_pos;omega):p:=h
def AM(h:p:=by rw[Int.natAbs_natCast];exact ae):p:=h
def AN(h:p:=by have:=a.2.zero;simp only[reduceCtorEq,true_iff,false_iff];omega):p:=h
def AO(h:p:=by show Value.int .u32 _=Value.int .u32 ((10^s/10:Nat):Int);rw[hD]):p:=h
def AP(h:p:=by show A.length<=C.length;omega):p:=h
def AQ(h:p:=by show C.length<=A.length;omega):p:=h
def AR(h:p:=by rw[decide_eq_false];exact Int.not_lt.2 (Int.natCast_nonneg _)):p:=h
def AT(h:p:=by intros;trivial):p:=h
def AV(h:p:=by rw[List.drop_zero,List.take_of_length_le (by rw[zL];omega)]):p:=h
def AW(h:p:=by cases c):p:=h
def AX(h:p:=by rw[vZ];simp;omega):p:=h
def AY(h:p:=by rw[jJ];exact c.n2):p:=h
def AZ(h:p:=by simp[q12]):p:=h
def Aa(h:p:=by cases h):p:=h
def Ab(h:p:=by rw[List.length_take];omega):p:=h
def Ac(h:p:=by show(fitL _ _ _).length<=7;rw[pF];have:=h.n1;omega):p:=h
def Ad(h:p:=by show A.length-0<LL;unfold LL;omega):p:=h
def Ae(h:p:=by show Value.bool (decide _)=_;rw[decide_eq_false Z]):p:=h
def Af(h:p:=by show Value.bool (decide _)=_;rw[decide_eq_true Z]):p:=h
def Ag(h:p:=by rw[e];exact Rat.le_refl):p:=h
def Ah(h:p:=by have:=b.2.zero;have:=a.2.zero;rcases(show x.natAbs=0\/y.natAbs=0 from Z)with e|e<;>rw[e]<;>simp):p:=h
def Ai(h:p:=by show n<=n+1;omega):p:=h
def Aj(h:p:=by show g<=a-1;omega):p:=h
def Ak(h:p:=by show i+1<=_;omega):p:=h
def Al(h:p:=by rw[List.length_append,List.length_drop];omega):p:=h
def Am(h:p:=by show b+v1<_;omega):p:=h
def An(h:p:=by rw[List.length_map,jJ];omega):p:=h
def Ao(h:p:=by show a-1<a;omega):p:=h
def Ap(h:p:=by rw[Nat.mul_comm];exact Nat.div_add_mod _ _):p:=h
def Aq(h:p:=by simpa using d):p:=h
def Ar(h:p:=by have:=s.bs.1;have:=T.1;omega):p:=h
def As(h:p:=by rw[List.take_zero,Nk];rfl):p:=h
def Au(h:p:=by show Value.bool (decide _)=_;rw[decide_eq_false (λh=>htest (Int.ofNat_lt.1 h))]):p:=h
def Av(h:p:=by rw[g];rfl):p:=h
def Aw(h:p:=by rw[show L-(i-1)=L-i+1 by omega,C 1,I.2]):p:=h
def Ax(h:p:=by rw[List.take_zero,kV];rfl):p:=h
def Ay(h:p:=by rw[Un i]):p:=h
def Az(h:p:=by rw[zL];simp;omega):p:=h
def B0(h:p:=by subst a;exact⟨_,ω,by simp only[rv,uJ];rfl⟩):p:=h
def B1(h:p:=by rw[hzero];simp only[hfr,Sem.run_bind,newRow,run_newObj,Result.andThen_ok,Sem.run_pure];rfl):p:=h
def B3(h:p:=by rw[decide_eq_true j];exact k):p:=h
def B4(h:p:=by rw[G,<-eE];exact OR.fill Z p1 ratP.kp ⟨_,_,_,_,_,_,_,_,ω,IW.zero _ _,IW.zero _ _⟩):p:=h
def B5(h:p:=by apply(zG);apply sC ((wz _ g.x).cx);rintro _ br bx rfl c5 c3;apply(zf);exact ω):p:=h
def B6(h:p:=by injection a with a;subst e a;exact⟨Z,nb_u⟩):p:=h
def B7(h:p:=by unfold gro;rw[show(3*n+2)%3=2 from Z];rfl):p:=h
def B8(h:p:=by obtain⟨f,off,c,g,i,p,q,_,rfl⟩:=RS.at' zd r hj;exact⟨f,off,g,i,p,q⟩):p:=h
def B9(h:p:=by exact⟨0,Rat.mul_zero _,Nat.zero_le _⟩):p:=h
def BA(h:p:=by rw[List.length_take,Nat.min_eq_left Z]at this;exact this):p:=h
def BC(h:p:=by rw[wb rfl];apply(Zb);apply ND (s:=s) (j:=m) R8 Z;apply(Zb);apply u4 (s:=s) (j:=m) R8 Z;rw[e,c];apply(kG);exact retF [.string ⟨⟨T⟩⟩,.string ⟨⟨x::p⟩⟩] ω ω R2 ω):p:=h
def BE(h:p:=by have:=hv.n2;have:=hv.ll;have:=hv.lu;have:=hv.lr;omega):p:=h
def BH(h:p:=by rintro v h' n' w⟨L,r,e,_⟩;exact r.ww e):p:=h
def BI(h:p:=by have⟨a,j,p,g,q⟩:=a;exact zZ ⟨a,j,p,g⟩ q k):p:=h
def BJ(h:p:=by have⟨c,f,g,i,l,m⟩:=c;apply N8 ⟨c,f,g,i,l,m⟩;simp only[j,decide_true,decide_false,Bool.not_true,Bool.not_false];exact k):p:=h
def BK(h:p:=by apply dS [.bool o,.slice m l5 u,.bool y,.slice B C D];intro h6 p6 o6;apply(zq);exact⟨_,_,_,_,_,_,_,_,ω,F.t zt,G.t zt⟩):p:=h
def BL(h:p:=by have:=L.keep (k:=k) (i:=0) q (by have:=u.1;omega) λj N _ h2 K=>f j ((u.2 j N K).2 Z);rw[Nat.zero_add]at this;exact this):p:=h
def BM(h:p:=by obtain⟨p,off,c,C,F,G,H,_,b,A,B,k,d,e,f,g,rfl,i,j⟩:=RS.at' zd r hj;exact⟨p,off,b,A,B,k,d,e,f,g,C,F,G,H,i,j⟩):p:=h
def BN(h:p:=by apply(zq);exact⟨_,_,_,_,_,_,_,_,_,_,_,_,_,_,_,_,_,_,_,ω,⟨λc=>AW,λc=>absurd c.1 F⟩,λc=>AW⟩):p:=h
def BO(h:p:=by apply(zH);apply(zf);exact J8 (λh=>h.elim (λh=>by cases h) λh=>Rat.not_lt.2 (Rat.le_of_lt c) h)):p:=h
def BP(h:p:=by rw[xI h];exact⟨λh=>.inr (h q ω),λh u a=>by cases a;exact h.resolve_left (λq=>by cases q)⟩):p:=h
def BQ(h:p:=by apply(Zp);rw[ze rfl];apply(Za);exact retF _ ω (zi ω) R2 (by rw[cmpI,if_neg Z,if_pos c];rfl)):p:=h
def BR(h:p:=by exact Nat.lt_of_lt_of_le (Nat.lt_of_lt_of_le (ko _) (Nat.pow_le_pow_right zd (show _<=m from Z))) j):p:=h
def BT(h:p:=by exact uu e a λρ w g f i=>⟨rD c.toEnvOk w ρ (λ_=>rfl) hv,fN c.toEnvOk (λx=>eJ i x) hv⟩):p:=h
def BU(h:p:=by refine R.mono λe w' S=>?_;obtain⟨u,rfl,d⟩:=S;exact N _ _ (g a w ρ M H D q B F Z1 u w' d)):p:=h
def BY(h:p:=by rw[decide_eq_false j];exact k):p:=h
def BZ(h:p:=by have⟨g,p,q,j,s⟩:=g;exact zZ ⟨g,p,q,j⟩ s k):p:=h
def Ba(h:p:=by show Tr.get θ t b=_;rw[H,if_pos rfl];exact F.symm):p:=h
def Bb(h:p:=by rw[zL,List.length_append,List.length_append,s];omega):p:=h
def Bc(h:p:=by simp only[List.length_append,List.length_cons];omega):p:=h
def Bd(h:p:=by simp[R.view,uJ,Blk.view]):p:=h
def Be(h:p:=by show j<=_;omega):p:=h
def Bf(h:p:=by show n<=_;omega):p:=h
def Bg(h:p:=by rw[d.len];omega):p:=h
def Bh(h:p:=by rw[List.length_append,List.length_singleton];omega):p:=h
def Bi(h:p:=by rw[<-H,show wv []=0 from ω,Nat.gcd_zero_right]):p:=h
def Bj(h:p:=by rw[d];exact Rat.le_refl):p:=h
theorem Bk(h:p:=by grind [Nk,zk,Rat.add_zero,List.take_of_length_le]):p:=h
def Bm(h:p:=by have:=t.1;omega):p:=h
theorem Bn(h:p:=by grind [SY,zil]):p:=h
def Bo(h:p:=by rw[<-hh,zm Z,zm Z,zg]):p:=h
def Bp(h:p:=by show(0:Nat)<=1;decide):p:=h
def Bq(h:p:=by unfold sk;split<;>omega):p:=h
def Br(h:p:=by show Value.int .i64 _=Value.int .i64 _;rw[hDY]):p:=h
def Bs(h:p:=by apply(zq);exact⟨_,_,_,_,_,_,_,_,_,_,ω,⟨λe=>l0,λhv=>by have:=hv.n1;have:=hv.n2;have:=hv.ll;have:=hv.lu;have:=hv.lr;omega⟩,λe=>l0⟩):p:=h
def Bt(h:p:=by apply(Zo);refine zZ (v:=.agg #[.bool χ,.slice θ 0 0,.bool χ,.slice θ 0 0]) R4 rfl<|yc [.bool χ,.slice θ 0 0,.bool χ,.slice θ 0 0] R7 ω ab ω eF ?_;apply(kG);exact M5 R6 (zg _ _ _) R2 ⟨ω,by show n<=n6+1;omega,λb g=>(zm Z).trans (P b g),_,_,_,_,0,[],[],χ,ω,RatR.zero _ _,Nat.zero_le _,Nat.zero_le _,trivial,trivial,λh=>absurd h eC,λhs=>absurd hs a0⟩):p:=h
def Bu(h:p:=by apply(Zj);refine z7 (v:=.agg #[.int .u64 (u0:Int),.int .u64 (p:Int),.int .u64 (Z0:Int),.int .u64 (g:Int),.bool o]) R5 (yw R2 Z1 ω zb ω)<|yc [.int .u64 (u0:Int),.int .u64 (p:Int),.int .u64 (Z0:Int),.int .u64 (g:Int),.bool o] R7 ω J ω bJ ?_;apply(zN);exact uq R5 (zg _ _ _) ω ⟨ω,by show n<=n+1+1;omega,λb hb=>(zm Z).trans (a5 b hb),⟨x,y,u0,p,H,Z0,g,u,K,r1,o,ω,S,b2,b3,b5,b6⟩⟩):p:=h
def Bv(h:p:=by exact retF _ ω (zi ω) R2 ω):p:=h
def Bw(h:p:=by have ay:=C.aVa ar a8 (a3.go ratP.kp (Tr.s R (Tr.refl _ _)) λb hb=>R.1 b (by have:=ap b hb;omega)) (λb hb=>by have:=ap b hb;omega) ax (cb.t ar);rw[<-ev,b1]at ay;exact sK (j+1,{D with va:=aV}) ⟨au,Z,λc hc=>(a8 c Z Z (λhv=>by have:=(C.va.bk c hv).1;omega)).trans (T.go c hc),(a8 _ Z Z (C.va.nbk (zB _))).trans ce,ay,kF⟩):p:=h
def Bx(h:p:=by apply(zf);exact⟨_,ω,λa=>tp⟩):p:=h
def By(h:p:=by exact y _ g hgg.symm ⟨ω,ω,ω,ω,ω,ω,ω,gS,trivial⟩):p:=h
def Bz(h:p:=by simp only[binE,isSh,Ns,if_neg c,e];rw[Int.fdiv_eq_ediv_of_nonneg _ (Int.le_of_lt (Int.pow_pos zd)),show(2:Int)^s=((2^s:Nat):Int)from by simp];rfl):p:=h
def Ca(h:p:=by exact Nat.div_le_self _ _):p:=h
def Cb(h:p:=by rintro v h' n' w⟨L,r,e⟩;exact r.uv e):p:=h
def Cc(h:p:=by rintro _ rfl;apply(Zm);exact retF _ ω (zi ω) R2 (by rw[tj s];rfl)):p:=h
def Cd(h:p:=by rw[o,<-I]at e;rw[e]at l;exact absurd l (Rat.not_lt.2 Rat.le_refl)):p:=h
def Ce(h:p:=by have⟨q,o,p⟩:=pX hg;rw[o];exact⟨_,ω,by simp[R.view,p]⟩):p:=h
def Cf(h:p:=by have⟨a,g,q,j,p⟩:=a;rw[jm a (by rw[g];exact q) j p,g];exact k):p:=h
def Cg(h:p:=by rw[za eS];apply(zN);rw[List.getElem?_eq_none Z];exact Le P5 R3):p:=h
def Ch(h:p:=by refine G.mono λe B H=>?_;obtain⟨ρ',rfl,d⟩:=H;exact F _ _ d):p:=h
def Ci(h:p:=by refine m _ _ D Z ?_;have V:(a-1)*v2<=4294967296*4294967296:=Nat.mul_le_mul Z Z;have W:4294967296*4294967296<=(b+v1)*4294967296:=Nat.mul_le_mul_right _ i;omega):p:=h
def Cj(h:p:=by apply(zq);exact⟨_,_,_,_,_,_,_,_,_,_,ω,⟨λe=>l0,λhv=>absurd (hv.rw _ (List.mem_of_getElem? q)).1 b7⟩,λe=>l0⟩):p:=h
def Ck(h:p:=by apply(Zp);rw[za rfl];apply(Za);exact retF _ ω (zi ω) R2 (by rw[cmpI,if_neg Z,if_neg Z];rfl)):p:=h
def Cm(h:p:=by apply(zH);apply(zf);exact J8 (λh=>h.elim (λh=>by cases h) λh=>Rat.lt_irrefl (c▸h))):p:=h
def Cn(h:p:=by rw[Nat.div_lt_iff_lt_mul Z];have:(top+1)*4294967296<=(v1*4294967296+v2)*4294967296:=Nat.mul_le_mul_right _ A;rw[Nat.mul_comm 4294967296];omega):p:=h
def Co(h:p:=by apply(Zr);exact retF _ ω (zi ω) R2 (by rw[cmpI,if_pos d];rfl)):p:=h
def Cp(h:p:=by apply(zN);rw[za rfl];apply(zN);exact goOn (a-1,b+v1) Ao ⟨ω,ω,ω,ω,ω,ω,ω,ω,ω,trivial⟩ ⟨ω,ω,ω,e d,Aj,Am⟩):p:=h
def Cq(h:p:=by apply(zN);rw[za rfl];apply(zN);exact goOn (a-1,b+v1) Ao ⟨ω,ω,ω,ω,ω,ω,ω,ω,ω,trivial⟩ ⟨ω,ω,ω,e Z,Aj,Am⟩):p:=h
def Cr(h:p:=by have:4294967296*v1<=(a-1)*v1:=Nat.mul_le_mul_right _ Z;omega):p:=h
def Cs(h:p:=by obtain⟨x,rfl⟩:∃x,a=x+1:=⟨a-1,Z⟩;rw[Nat.add_mul,Nat.one_mul]at f;simp only[Nat.add_sub_cancel];omega):p:=h
def KY(h:p:=by refine retH _ ⟨ω,(zi ω),ω⟩ ⟨ω,ω,ω,?_,f⟩;rw[c];rfl):p:=h
theorem aD(h:p:=by grind):p:=h
def bJ(h:p:=by show 3*n<=3*n+2;omega):p:=h
def cA(h:p:=by decide+kernel):p:=h
def dG(h:p:=by show Value.int .i64 _=Value.int .i64 _;congr 1;omega):p:=h
def eC(h:p:=by simp):p:=h
def eF(h:p:=by show 3*n<=_;omega):p:=h
def eH(h:p:=by rw[List.length_map];omega):p:=h
def eN(h:p:=by show Value.int .i64 _=Value.int .i64 _;rw[List.length_append];rfl):p:=h
def eP(h:p:=by simp;omega):p:=h
def eS(h:p:=by show Value.bool _=_;rw[decide_eq_false Z]):p:=h
def eU(h:p:=by show Value.bool _=_;rw[decide_eq_true Z]):p:=h
def gH(h:p:=by show Value.int .i64 _=Value.int .i64 _;congr 1):p:=h
def gN(h:p:=by show 3*n<=3*(n+1)+2;omega):p:=h
def gP(h:p:=by show B<3*n;omega):p:=h
def gQ(h:p:=by rw[<-hh,zg];rfl):p:=h
def gS(h:p:=by show Value.int .u64 _=Value.int .u64 _;rw[j]):p:=h
def gX(h:p:=by show(D++[s]).length<=_;rw[List.length_append,List.length_singleton];omega):p:=h
def gY(h:p:=by assumption):p:=h
def gZ(h:p:=by rw[<-hh,zg]):p:=h
def kF(h:p:=by show j+1<=_;omega):p:=h
def l0(h:p:=by cases e):p:=h
def mo(h:p:=by have:=a.ge;have:=b.lt;unfold KT;(try simp only[if_true,if_false,Bool.false_eq_true]);omega):p:=h
def mp(h:p:=by have:=a.lt;have:=b.ge;unfold KT;(try simp only[if_true,if_false,Bool.false_eq_true]);omega):p:=h
def mu(h:p:=by have:=e.ge;have:=f.lt;unfold KT;(try simp only[if_true,if_false,Bool.false_eq_true]);omega):p:=h
def nN(h:p:=by show Value.int .i64 _=Value.int .i64 _;simp):p:=h
def nP(h:p:=by rw[List.length_map,hv.cols];omega):p:=h
def ns(h:p:=by have:=e.lt;have:=f.ge;unfold KT;(try simp only[if_true,if_false,Bool.false_eq_true]);omega):p:=h
def o0(h:p:=by rw[f];rfl):p:=h
def oB(h:p:=by show j+1<=n;omega):p:=h
def oo(h:p:=by simp[wv,dv]):p:=h
def p0(h:p:=by rw[zL,List.length_append,List.length_drop];omega):p:=h
theorem pe(h:p:=by grind [pt,iM,PW,qZ]):p:=h
def pq(h:p:=by simp<;>omega):p:=h
def qe(h:p:=by have:=a.ge;have:=c.ge;simp only[reduceCtorEq,true_iff,false_iff];omega):p:=h
def qq(h:p:=by have:=a.lt;have:=c.lt;simp only[reduceCtorEq,true_iff,false_iff];omega):p:=h
def rp(h:p:=by show 3*n<=3*n+1;omega):p:=h
def rq(h:p:=by show top/v1<LL;have:top/v1<=top:=Nat.div_le_self _ _;unfold LL;omega):p:=h
def ru(h:p:=by rw[List.length_take,List.length_drop];omega):p:=h
def s9(h:p:=by rw[vZ];omega):p:=h
def sN(h:p:=by have:=H;simp only[Int.natAbs_neg,Int.natAbs_natCast]at this;omega):p:=h
def sP(h:p:=by show l.length<LL;unfold LL;omega):p:=h
def sa(h:p:=by show(0:Nat)<_;decide):p:=h
def sn(h:p:=by have:=G;simp only[Int.natAbs_neg,Int.natAbs_natCast]at this;omega):p:=h
def tp(h:p:=by cases a):p:=h
def tu(h:p:=by show ξ (Value.int .i64 (IntKind.wrap .i64 _))=_;rw[LM Z]):p:=h
def ux(h:p:=by rw[List.length_map];exact Nat.le_refl _):p:=h
def xd(h:p:=by rw[yo];omega):p:=h
end
end Go
namespace Go.GL
open Go
variable{w0 w':World}{n nt size cap len off m' sz n' n0 bt c l m b d r k L N:Nat}{β α:Type}{a:Act}{In:Nat->Prop}{Ms W:List Nat}{body:Code}{ops:List Oper}{v0 v z:ψ}{ty xT:TypeId}{cs vs:List ψ}{tm:Array ψ}{g' g:Operand->ψ}{x y:Operand}{o:Oper}{F:Fence}{P:Program}{Q:Exit->Act->World->Prop}
variable{i j u:Nat}{e t sT:TypeId}{args:List ψ}{f:FuncId}
inductive Tr (α:Type) where
 |lf
 |nd (l:Tr α) (v:α) (r:Tr α)
def Tr.get{α:Type}(d:α)(t:Tr α):Nat->α:=
 Tr.rec (motive:=λ_=>Nat->α) (λ_=>d)
  (λ_ x _ il ir i=>II (motive:=λ_=>α) x (λj _=>Hq (motive:=λ_=>α) (ir (j/2)) (il (j/2)) (DK (j%2) 0)) i) t
class Dflt (α:Type) where
 d:α
instance:Dflt ψ:=⟨undef⟩
instance {α:Type}:Dflt (Option α):=⟨θ⟩
def Tr.new{α:Type}(d v:α)(fuel:Nat):Nat->Tr α:=
 II (motive:=λ_=>Nat->Tr α) (λ_=>.nd .lf v .lf)
  (λ_ ih i=>II (motive:=λ_=>Tr α) (.nd .lf v .lf) (λj _=>Hq (motive:=λ_=>Tr α) (.nd .lf d (ih (j/2))) (.nd (ih (j/2)) d .lf) (DK (j%2) 0)) i) fuel
def Tr.set{α β:Type}[Dflt α](t:Tr α):Nat->α->(Tr α->Option β)->Option β:=
 Tr.rec (motive:=λ_=>Nat->α->(Tr α->Option β)->Option β) (λi v k=>k (Tr.new Dflt.d v i i))
  (λl x r il ir i v k=>II (motive:=λ_=>Option β) (k (.nd l v r))
   (λj _=>Hq (motive:=λ_=>Option β) (ir (j/2) v λr=>k (.nd l x r)) (il (j/2) v λl=>k (.nd l x r)) (DK (j%2) 0)) i) t
def Tr.mk{α:Type}(d:α)(n:Nat):Tr α:=II (motive:=λ_=>Tr α) .lf (λ_ t=>.nd t d t) n
def uP{β:Type}(n:Nat)(k:Nat->β):β:=II (motive:=λ_=>β) (k 0) (λm _=>k (Nat.succ m)) n
def O5{β:Type}(n:Int)(k:Int->β):β:=match n with| .ofNat m=>uP m λm=>k (.ofNat m)| .negSucc m=>uP m λm=>k (.negSucc m)
def pa{α β:Type}(l:List α):(List α->β)->β:=
 List.rec (motive:=λ_=>(List α->β)->β) (λk=>k []) (λa _ ih k=>ih λl=>k (a::l)) l
def N0{β:Type}(a:Addr)(k:Addr->β):β:=match a with|⟨b,o,s⟩=>uP b λb=>uP o λo=>match s with|none=>k ⟨b,o,θ⟩|some s=>k ⟨b,o,ξ s⟩
def bp{β:Type}(v:ψ)(k:ψ->β):β:=
 match v with
 | U b=>(match b with|true=>k (U φ)|false=>k (U χ))
 | CC ik n=>O5 n λn=>k (CC ik n)
 | CG ⟨⟨l⟩⟩=>pa l λl=>k (CG ⟨⟨l⟩⟩)
 | CH (ξ a)=>N0 a λa=>k (CH (ξ a))
 | Y (ξ a) l c=>N0 a λa=>uP l λl=>uP c λc=>k (Y (ξ a) l c)
 | .agg ⟨l⟩=>pa l λl=>k (.agg ⟨l⟩)
 | .tuple ⟨l⟩=>pa l λl=>k (.tuple ⟨l⟩)
 |v=>k v
def oU{β:Type}:List ψ->(List ψ->β)->β
 |[],k=>k []
 |a::l,k=>bp a λa=>oU l λl=>k (a::l)
inductive TD where
 |bool|int (k:IntKind)|string|slice (e:TypeId)|array (len:Nat) (e:TypeId)|struct (fs:List (TypeId×Nat))|other
def TD.of:TypeDesc->TD
 | .bool=>.bool
 | .int k=>.int k
 | .string=>.string
 | .slice e=>.slice e
 | .array n e=>.array n e
 | .struct fs=>.struct (fs.toList.map λf=>(f.type,f.offset))
 |_=>.other
structure Env where
 und:TypeId->Option TD
 inf:TypeId->Option (Nat×Nat×ψ)
 fn:FuncId->Option Func
 ext:FuncId->List ψ->Option ψ
 dT:Nat
 pure:FuncId->Bool
 cmp:TypeId->Option (List (TypeId×Nat))
inductive Blk where
 |row (c:List ψ) (e:TypeId)
 |loop (ready:Bool) (pending:Option Code) (t:Tr ψ) (nt:Nat) (ps:List Tmp) (assign body:Code) (d:Nat)
 |dfr
 |ro (c:List ψ)
def Blk.cells:Blk->Option (List ψ)
 | .row c _=>ξ c
 | .ro c=>ξ c
 |_=>θ
abbrev Hp:=Tr (Option Blk)
noncomputable abbrev Hp.at (h:Hp) (b:Nat):Option Blk:=Tr.get θ h b
noncomputable abbrev nth (t:Tr ψ) (i:Nat):ψ:=Tr.get undef t i
def gro(b:Nat):Bool:=DK (b%3) 1
structure St where
 t:Tr ψ
 h:Hp
 n:Nat
 w:List Nat
inductive Ex where
 |normal|exit (id:Nat)|ret
def qF:ψ->Bool
 | U _=>φ| CC _ _=>φ| .float _ _=>φ| .complex _ _ _=>φ| CG _=>φ
 | CH θ=>φ| Y θ _ _=>φ| .nilFunc=>φ| .nilIface=>φ| .map θ=>φ| .chan θ=>φ
 |_=>χ
def closed:ψ->Bool
 | .agg ⟨l⟩=>l.all qF
 | .tuple ⟨l⟩=>l.all qF
 |v=>qF v
def ev(t:Tr ψ):Operand->ψ
 | .tmp i=>nth t i
 | .const v=>(match closed v with|true=>v|false=>undef)
 | .global g=>ε (3*g)
 | .func f=>.func (.func f) #[] #[]
def md(h:Hp)(a:Addr)(n:Nat):Option (List ψ):=
 match h.at a.block with
 |some x=>(match x.cells with|some c=>(match Dd (a.off+n) (O c)&&a.spot.isNone with|true=>ξ ((c.drop a.off).take n)|false=>θ)|none=>θ)
 |none=>θ
def zu(c:List ψ)(off:Nat)(vs:List ψ):List ψ:=c.take off++(vs++c.drop (off+O vs))
def ones:List ψ->Bool
 |[]=>φ
 | .agg _::_=>χ
 | .tuple _::_=>χ
 |_::r=>ones r
def qN(h:Hp)(a:Addr)(vs:List ψ):Option Hp:=
 match h.at a.block with
 |some (.row c e)=>(match Dd (a.off+O vs) (O c)&&(a.spot.isNone&&ones vs)with|true=>pa (zu c a.off vs) λc=>h.set a.block (ξ (.row c e)) ξ|false=>θ)
 |_=>θ
def isAgg(E:Env)(t:TypeId):Option Bool:=
 match E.und t with
 |some (.struct _)|some (.array _ _)=>ξ φ
 |some _=>ξ χ
 |none=>θ
def zn:ψ->List ψ
 | .agg cs=>cs.toList
 |v=>[v]
def oN(E:Env)(t:TypeId)(h:Hp)(a:Addr):Option ψ:=
 match isAgg E t,E.inf t with
 |some φ,ξ (sz,_,_)=>(md h a sz).map λcs=>.agg cs.toArray
 |some χ,_=>match md h a 1 with|some [v]=>ξ v|_=>θ
 |_,_=>θ
inductive R where
 |val (v:ψ) (h:Hp) (n:Nat) (w:List Nat)
 |enter (f:FuncId) (args:List ψ)
 |round (l:Nat) (args:List ψ)
def wB(h:Hp)(size n:Nat):ψ->Option (List ψ)
 | Y (ξ a) _ _=>if n*size=0 then ξ []else md h a (n*size)
 | Y θ _ _=>ξ []
 | CG s=>ξ ((s.data.toList.take n).map λb=>CC .u8 b.toNat)
 |_=>θ
def lenOf?:ψ->Option Nat
 | Y _ n _=>ξ n
 | CG s=>ξ (O s.data.toList)
 |_=>θ
def N1(h:Hp)(b cells:Nat)(e:TypeId):Bool:=match h.at b with|some (.row c e')=>DK (O c) cells&&DK e' e|_=>χ
def MN(h:Hp)(n:Nat)(e:TypeId)(cs:List ψ)(need cells sz:Nat)(base:Option Addr):Option R:=
 match base with
 |none=>h.set (3*n+1) (ξ (.row cs e)) λh=>ξ (.val (Y (ξ ⟨3*n+1,0,θ⟩) need need) h (n+1) [])
 |some a=>
  match gro a.block with
  |true=>
   match DK a.off 0&&(a.spot.isNone&&(N1 h a.block cells e&&(ones cs&&DK (O cs) (need*sz))))with
   |true=>h.set a.block θ λh=>h.set (3*n+1) (ξ (.row cs e)) λh=>ξ (.val (Y (ξ ⟨3*n+1,0,θ⟩) need need) h (n+1) [a.block])
   |false=>θ
  |false=>h.set (3*n+1) (ξ (.row cs e)) λh=>ξ (.val (Y (ξ ⟨3*n+1,0,θ⟩) need need) h (n+1) [])
def tq(h:Hp)(n size need:Nat)(base:Option Addr)(sLen sCap:Nat)(new:List ψ):Option R:=
 match base,new with
 |_,[]=>ξ (.val (Y base need sCap) h n [])
 |some a,new=>(match qN h (a.add (sLen*size)) new with|some h=>ξ (.val (Y base need sCap) h n [a.block])|none=>θ)
 |none,_=>θ
def qI(E:Env)(h:Hp)(n:Nat)(sT:TypeId)(s x:ψ):Option R:=
 match E.und sT with
 |some (.slice e)=>
  match E.inf e,s,lenOf? x with
  |some (size,bytes,z),Y base sLen sCap,ξ m=>
   match wB h size m x with
   |some new=>
    match Dd ((sLen+m)*bytes) 1099511627776&&(DK (O (zn z)) size&&Dd 1 size&&Dd 1 bytes)with
    |true=>
     match Dd (sLen+m) sCap with
     |true=>tq h n size (sLen+m) base sLen sCap new
     |false=>
      match wB h size sLen s with
      |some old=>pa (old++new) λcs=>MN h n e cs (sLen+m) (sCap*size) size base
      |none=>θ
    |false=>θ
   |none=>θ
  |_,_,_=>θ
 |_=>θ
def MO(E:Env)(h:Hp)(n:Nat)(dT:TypeId)(d x:ψ):Option R:=
 match E.und dT with
 |some (.slice e)=>
  match E.inf e,d,lenOf? x with
  |some (size,_,_),Y base dLen _,ξ m=>
   match wB h size (Jh m dLen) x,base with
   |some [],_=>ξ (.val (goInt (Jh m dLen)) h n [])
   |some cs,ξ a=>(match qN h a cs with|some h=>ξ (.val (goInt (Jh m dLen)) h n [a.block])|none=>θ)
   |_,_=>θ
  |_,_,_=>θ
 |_=>θ
def x1:Int->Int->Bool
 | .ofNat a,.ofNat b=>DK a b
 | .negSucc a,.negSucc b=>DK a b
 |_,_=>χ
def x3:Int->Int->Bool
 | .ofNat a,.ofNat b=>Dd a b
 | .negSucc a,.negSucc b=>Dd b a
 | .negSucc _,.ofNat _=>φ
 | .ofNat _,.negSucc _=>χ
def x2(a b:Int):Bool:= !x3 b a
def Nr(op:BinOp)(k:IntKind)(x y:Int):Option ψ:=
 let a:=Fl k.bits x
 let b:=Fl k.bits y
 match op with
 | .and=>ξ (CC k (k.wrap (a&&& b).toNat))
 | .or=>ξ (CC k (k.wrap (a|||b).toNat))
 | .xor=>ξ (CC k (k.wrap (a^^^b).toNat))
 | .andNot=>ξ (CC k (k.wrap (a&&& ~~~b).toNat))
 |_=>θ
def intE(op:BinOp)(k:IntKind)(a b:Int):Option ψ:=
 match op with
 | .add=>ξ (CC k (k.wrap (a+b)))
 | .sub=>ξ (CC k (k.wrap (a-b)))
 | .mul=>ξ (CC k (k.wrap (a*b)))
 | .quo=>if b=0 then θ else ξ (CC k (k.wrap (a.tdiv b)))
 | .rem=>if b=0 then θ else ξ (CC k (a.tmod b))
 | .and=>Nr .and k a b
 | .or=>Nr .or k a b
 | .xor=>Nr .xor k a b
 | .andNot=>Nr .andNot k a b
 | .shl=>θ
 | .shr=>θ
 | .eql=>ξ (U (x1 a b))
 | .neq=>ξ (U (!(x1 a b)))
 | .lss=>ξ (U (x2 a b))
 | .leq=>ξ (U (x3 a b))
 | .gtr=>ξ (U (x2 b a))
 | .geq=>ξ (U (x3 b a))
def Ns(op:BinOp)(k:IntKind)(a b:Int):Option ψ:=
 match op with
 | .shl=>if b<0 then θ else ξ (CC k (k.wrap (a*2^(min b.toNat k.bits))))
 | .shr=>if b<0 then θ else ξ (CC k (a.fdiv (2^(min b.toNat k.bits))))
 |_=>θ
def ikEq:IntKind->IntKind->Bool
 | .i8,.i8=>φ| .i16,.i16=>φ| .i32,.i32=>φ| .i64,.i64=>φ| .u8,.u8=>φ| .u16,.u16=>φ| .u32,.u32=>φ| .u64,.u64=>φ|_,_=>χ
def isSh:BinOp->Bool| .shl=>φ| .shr=>φ|_=>χ
def strE(op:BinOp)(a b:List UInt8):Option ψ:=
 match op with
 | .add=>if (O a)+O b<=1099511627776 then ξ (CG ⟨⟨a++b⟩⟩)else θ
 | .eql=>ξ (U (a==b))
 | .neq=>ξ (U (!(a==b)))
 |_=>θ
def Qy(E:Env)(op:BinOp)(t:TypeId)(a b:Bool):Option ψ:=
 match op,E.und t with
 | .eql,ξ .bool=>ξ (U (a==b))
 | .neq,ξ .bool=>ξ (U (!(a==b)))
 |_,_=>θ
def nilE(E:Env)(op:BinOp)(t:TypeId)(a:Bool):Option ψ:=
 match op,E.und t with
 | .eql,ξ (.slice _)=>ξ (U a)
 | .neq,ξ (.slice _)=>ξ (U (!a))
 |_,_=>θ
def MP(E:Env)(t:TypeId)(cs:List ψ)(off:Nat):Option ψ:=
 match isAgg E t,E.inf t with
 |some φ,ξ (sz,_,_)=>ξ (.agg ((cs.drop off).take sz).toArray)
 |some χ,_=>cs[off]?
 |_,_=>θ
def O6(E:Env)(t:TypeId):ψ->ψ->Option Bool
 | CC k x,CC k' y=>(match E.und t,ikEq k k' with|some (.int _),φ=>ξ (x1 x y)|_,_=>θ)
 | CG x,CG y=>(match E.und t with|some .string=>ξ (x.data.toList==y.data.toList)|_=>θ)
 | U x,U y=>(match E.und t with|some .bool=>ξ (x==y)|_=>θ)
 |_,_=>θ
def eqFs(E:Env)(a b:List ψ):List (TypeId×Nat)->Option Bool
 |[]=>ξ φ
 |(t,off)::r=>
  match MP E t a off,MP E t b off with
  |some x,ξ y=>(match O6 E t x y with|some φ=>eqFs E a b r|some χ=>ξ χ|none=>θ)
  |_,_=>θ
def aggE(E:Env)(op:BinOp)(t:TypeId)(a b:List ψ):Option ψ:=
 match op,E.cmp t with
 | .eql,ξ fs=>(match eqFs E a b fs with|some v=>ξ (U v)|none=>θ)
 | .neq,ξ fs=>(match eqFs E a b fs with|some v=>ξ (U (!v))|none=>θ)
 |_,_=>θ
def binE(E:Env)(op:BinOp)(t:TypeId)(x y:ψ):Option ψ:=
 match x,y with
 | CC k a,CC k' b=>(match isSh op with|true=>Ns op k a b|false=>(match ikEq k k' with|true=>intE op k a b|false=>θ))
 | CG a,CG b=>strE op a.data.toList b.data.toList
 | U a,U b=>Qy E op t a b
 | Y a _ _,Y θ _ _=>nilE E op t a.isNone
 | .agg a,.agg b=>aggE E op t a.toList b.toList
 |_,_=>θ
def N2(op:UnOp)(x:ψ):Option ψ:=
 match op,x with
 | .neg,CC k n=>ξ (CC k (k.wrap (0-n)))
 | .not,U b=>ξ (.bool !b)
 |_,_=>θ
def O7(E:Env)(t:TypeId)(x:ψ)(f:Nat):Option ψ:=
 match E.und t,x with
 |some (.struct fs),.agg cs=>match fs[f]? with|some fl=>MP E fl.1 cs.toList fl.2|none=>θ
 |_,_=>θ
def qw(E:Env)(t:TypeId)(x:ψ)(f:Nat):Option ψ:=
 match E.und t,x with
 |some (.struct fs),CH (ξ a)=>
  match fs[f]? with
  |some fl=>match E.inf fl.1 with|some (sz,_,_)=>if sz=0 then θ else ξ (CH (ξ (a.add fl.2)))|none=>θ
  |none=>θ
 |_,_=>θ
def yV(E:Env)(t:TypeId)(x i:ψ):Option ψ:=
 match i with
 | CC _ j=>
  match E.und t,x with
  |some (.array len e),CH (ξ a)=>match E.inf e with|some (sz,_,_)=>if 0<=j/\j<len then ξ (CH (ξ (a.add (j.toNat*sz))))else θ|none=>θ
  |some (.slice e),Y (ξ a) len _=>match E.inf e with|some (sz,_,_)=>if 0<=j/\j<len then ξ (CH (ξ (a.add (j.toNat*sz))))else θ|none=>θ
  |_,_=>θ
 |_=>θ
def iK(E:Env)(t:TypeId)(x i:ψ):Option ψ:=
 match i with
 | CC _ j=>
  match E.und t,x with
  |some (.array len e),.agg cs=>match E.inf e with|some (sz,_,_)=>if 0<=j/\j<len then MP E e cs.toList (j.toNat*sz)else θ|none=>θ
  |some .string,CG s=>if 0<=j then match s.data.toList[j.toNat]? with|some b=>ξ (CC .u8 b.toNat)|none=>θ else θ
  |_,_=>θ
 |_=>θ
def bnd(x:Option ψ)(d y:Nat):Option Nat:=
 match x with
 |none=>ξ d
 |some (CC _ i)=>if 0<=i/\i<=y then ξ i.toNat else θ
 |_=>θ
def offA(cap i sz:Nat)(a:Addr):Addr:=match DK cap i with|true=>a|false=>a.add (i*sz)
def fB(E:Env)(t:TypeId)(x lo hi mx:ψ):Option ψ:=
 match E.und t,x,lo,hi,mx with
 |some (.slice e),Y (ξ a) _ cap,CC _ (.ofNat i),CC _ (.ofNat j),CC _ (.ofNat m)=>
  match E.inf e with
  |some (sz,_,_)=>(match Dd i j&&(Dd j m&&(Dd m cap&&(!gro a.block&&a.spot.isNone)))with|true=>ξ (Y (ξ (offA m i sz a)) (j-i) (m-i))|false=>θ)
  |none=>θ
 |_,_,_,_,_=>θ
def endA(n:Nat)(a:Addr):Addr:=⟨a.block,a.off+n,ξ a.off⟩
def xc(E:Env)(t:TypeId)(x:ψ)(lo hi:Option ψ):Option ψ:=
 match E.und t,x with
 |some .string,CG s=>
  match bnd hi (O s.data.toList) (O s.data.toList) with
  |some j=>(match bnd lo 0 j with|some i=>ξ (CG ⟨⟨(s.data.toList.drop i).take (j-i)⟩⟩)|none=>θ)
  |none=>θ
 |some (.slice e),Y a len cap=>
  match E.inf e,bnd hi len cap with
  |some (sz,_,_),ξ j=>
   match bnd lo 0 j with
   |some i=>
    match a with
    |none=>ξ (Y θ (j-i) (cap-i))
    |some a=>(match a.spot,gro a.block&&(Dd 1 i&&Dd cap i)with|some _,_=>θ|none,φ=>(match DK cap i&&DK j i with|true=>ξ (Y (ξ (endA (i*sz) a)) 0 0)|false=>θ)|none,χ=>ξ (Y (ξ (offA cap i sz a)) (j-i) (cap-i)))
   |none=>θ
  |_,_=>θ
 |some (.array len e),CH (ξ a)=>
  match E.inf e,bnd hi len len with
  |some (sz,_,_),ξ j=>(match bnd lo 0 j,gro a.block||a.spot.isSome with|some i,χ=>ξ (Y (ξ (offA len i sz a)) (j-i) (len-i))|_,_=>θ)
  |_,_=>θ
 |_,_=>θ
def me(c:List ψ)(place:Nat->Option (Nat×Nat)):List (Nat×ψ)->Option (List ψ)
 |[]=>ξ c
 |(i,v)::r=>
  match place i with
  |none=>θ
  |some (off,size)=>if(zn v).length≠size||off+size>O c then θ else me (zu c off (zn v)) place r
def O8(E:Env)(t:TypeId)(ps:List (Nat×ψ)):Option ψ:=
 match E.und t,E.inf t with
 |some (.struct fs),ξ (_,_,z)=>
  (me (zn z) (λi=>match fs[i]? with|some f=>(match E.inf f.1 with|some (sz,_,_)=>ξ (f.2,sz)|none=>θ)|none=>θ) ps).map λl=>.agg l.toArray
 |some (.array _ e),ξ (_,_,z)=>
  match E.inf e with
  |some (sz,_,_)=>(me (zn z) (λi=>ξ (i*sz,sz)) ps).map λl=>.agg l.toArray
  |none=>θ
 |_,_=>θ
def rep:Nat->List ψ->List ψ
 |0,_=>[]
 |n+1,z=>z++rep n z
def kP(x:ψ)(i:Nat):Option ψ:=
 match x with
 | .tuple vs=>vs.toList[i]?
 |_=>θ
def lenE(E:Env)(t:TypeId)(x:ψ):Option ψ:=
 match E.und t,x with
 |some .string,CG s=>ξ (goInt (O s.data.toList))
 |some (.array n _),_=>ξ (goInt n)
 |some (.slice _),Y _ n _=>ξ (goInt n)
 |_,_=>θ
def kZ(E:Env)(t d:TypeId)(x:ψ):Option ψ:=
 match E.und t,E.und d,x with
 |some _,ξ (.int k),CC _ n=>ξ (CC k (k.wrap n))
 |some _,ξ .string,CG s=>ξ (CG s)
 |_,_,_=>θ
def pi:List ψ->Option (List UInt8)
 |[]=>ξ []
 | CC .u8 m::r=>match pi r with|some l=>ξ (Ec m.toNat::l)|none=>θ
 |_=>θ
def minE:List ψ->Option ψ
 |[CC k x,CC _ y]=>ξ (CC k (if y<x then y else x))
 |_=>θ
def maxE:List ψ->Option ψ
 |[CC k x,CC _ y]=>ξ (CC k (if x<y then y else x))
 |_=>θ
def Qz(c a b:ψ):Option ψ:=match c with| U φ=>ξ a| U χ=>ξ b|_=>θ
def LH(ρ:Operand->ψ)(l:Array (Nat×Operand)):List (Nat×ψ):=l.toList.map λp=>(p.1,ρ p.2)
def QA(x:ψ):Option ψ:=match x with| CH (ξ a)=>ξ (CH (ξ a))|_=>θ
def QC(E:Env)(ts:List TypeId)(args:List ψ):Option ψ:=
 match args,ts with
 |[x],[t]=>lenE E t x
 |_,_=>θ
def aH(E:Env)(b:Builtin)(ts:List TypeId)(args:List ψ):Option ψ:=
 match b with
 | .len=>QC E ts args
 | .min=>minE args
 | .max=>maxE args
 |_=>θ
def yy(E:Env)(o:Op)(ρ:Operand->ψ):Option ψ:=
 match o with
 | .move x=>ξ (ρ x)
 | .assign x=>ξ (ρ x)
 | .pick c a b=>Qz (ρ c) (ρ a) (ρ b)
 | .build t l=>O8 E t (LH ρ l)
 | .nilCheck x=>QA (ρ x)
 | .binOp op t x y _=>binE E op t (ρ x) (ρ y)
 | .unOp op _ x=>N2 op (ρ x)
 | .convert t d x=>kZ E t d (ρ x)
 | .makeFunc (.func f) a b=>ξ (.func (.func f) (a.map ρ) (b.map ρ))
 | .slice t x lo hi θ=>xc E t (ρ x) (lo.map ρ) (hi.map ρ)
 | .slice t x (ξ lo) (ξ hi) (ξ m)=>fB E t (ρ x) (ρ lo) (ρ hi) (ρ m)
 | .fieldAddr s x f=>qw E s (ρ x) f
 | .field t x f=>O7 E t (ρ x) f
 | .indexAddr t x i=>yV E t (ρ x) (ρ i)
 | .index t x i=>iK E t (ρ x) (ρ i)
 | .extract t i=>kP (ρ t) i
 | .call c=>(match c.callee with| .builtin b=>aH E b c.argTypes.toList (c.args.toList.map ρ)|_=>θ)
 |_=>θ
structure Mk where
 c:List ψ
 e:TypeId
 g:Bool
 s:Option (Nat×Nat)
def O9(E:Env)(t:TypeId)(len:Nat)(l:List (Nat×ψ)):Option Mk:=
 match E.und t with
 |some (.slice e)=>
  match E.inf e with
  |some (sz,_,z)=>
   match Dd (len*sz) 16777216&&DK (O (zn z)) sz with
   |true=>(match me (rep len (zn z)) (λj=>ξ (j*sz,sz)) l with|some cs=>ξ ⟨cs,e,χ,ξ (len,len)⟩|none=>θ)
   |false=>θ
  |none=>θ
 |_=>θ
def tn(E:Env)(t:TypeId)(l c:ψ):Option Mk:=
 match E.und t,l,c with
 |some (.slice e),CC _ (.ofNat len),CC _ (.ofNat cap)=>
  match E.inf e with
  |some (sz,by_,z)=>
   match Dd len cap&&(Dd (cap*by_) 1099511627776&&(Dd cap 1099511627776&&DK (O (zn z)) sz))with
   |true=>ξ ⟨rep cap (zn z),e,χ,ξ (len,cap)⟩
   |false=>θ
  |none=>θ
 |_,_,_=>θ
def vI(E:Env)(t d:TypeId)(x:ψ):Option Mk:=
 match x,E.und t,E.und d with
 | CG bs,ξ _,ξ (.slice e)=>
  match E.und e,E.inf e with
  |some (.int .u8),ξ (1,_,_)=>ξ ⟨bs.data.toList.map λb=>CC .u8 b.toNat,e,φ,ξ (O bs.data.toList,O bs.data.toList)⟩
  |_,_=>θ
 |_,_,_=>θ
def Kl(E:Env)(o:Op)(ρ:Operand->ψ):Option Mk:=
 match o with
 | .alloc e=>(match E.inf e with|some (_,_,z)=>ξ ⟨zn z,e,χ,θ⟩|none=>θ)
 | .box e x=>ξ ⟨zn (ρ x),e,χ,θ⟩
 | .buildSlice t len l=>O9 E t len (LH ρ l)
 | .makeSlice t l c=>tn E t (ρ l) (ρ c)
 | .convert t d x=>vI E t d (ρ x)
 |_=>θ
def Mk.name(m:Mk)(n:Nat):Nat:=match m.g with|true=>3*n+1|false=>3*n+2
def Mk.val(m:Mk)(n:Nat):ψ:=match m.s with|none=>ε (m.name n)|some (l,c)=>Y (ξ ⟨m.name n,0,θ⟩) l c
def mC(E:Env)(t:TypeId)(a x:ψ)(h:Hp)(n:Nat):Option R:=
 match a,E.inf t with
 | CH (ξ ad),ξ (sz,_,_)=>
  match DK (O (zn x)) sz with
  |true=>(match qN h ad (zn x)with|some h=>ξ (.val undef h n [ad.block])|none=>θ)
  |false=>θ
 |_,_=>θ
def Nt(E:Env)(f:ψ)(args:List ψ)(h:Hp)(n:Nat):Option R:=
 match f with
 | .func (.func g) first cap=>(match E.ext g (first.toList++(args++cap.toList))with|some v=>ξ (.val v h n [])|none=>ξ (.enter g (first.toList++(args++cap.toList))))
 | .func (.yield l) first _=>ξ (.round l (first.toList++args))
 |_=>θ
def appE(E:Env)(ts:List TypeId)(args:List ψ)(h:Hp)(n:Nat):Option R:=
 match args,ts with
 |[s,x],[sT,xT]=>(match E.und xT with|some (.int _)=>θ|none=>θ|_=>qI E h n sT s x)
 |_,_=>θ
def cpyE(E:Env)(ts:List TypeId)(args:List ψ)(h:Hp)(n:Nat):Option R:=
 match args,ts with
 |[s,x],sT::_=>MO E h n sT s x
 |_,_=>θ
def qH(E:Env)(c:Callee)(ts:List TypeId)(ρ:Operand->ψ)(args:List ψ)(h:Hp)(n:Nat):Option R:=
 match c with
 | .builtin .append=>appE E ts args h n
 | .builtin .copy=>cpyE E ts args h n
 | .value f=>Nt E (ρ f) args h n
 |_=>θ
def effE(E:Env)(o:Op)(ρ:Operand->ψ)(h:Hp)(n:Nat):Option R:=
 match o with
 | .store t a x=>mC E t (ρ a) (ρ x) h n
 | .call c=>qH E c.callee c.argTypes.toList ρ (c.args.toList.map ρ) h n
 |_=>θ
def Nu(E:Env)(t d:TypeId)(x:ψ)(h:Hp):Option ψ:=
 match x,E.und t,E.und d with
 | Y a len c,ξ (.slice e),ξ .string=>
  match E.und e,wB h 1 len (Y a len c)with
  |some (.int .u8),ξ cs=>(match pi cs with|some l=>ξ (CG ⟨⟨l⟩⟩)|none=>θ)
  |_,_=>θ
 |_,_,_=>θ
def Kd:Op->Nat
 | .load _ _=>1
 | .alloc _=>2| .box _ _=>2| .buildSlice _ _ _=>2| .makeSlice _ _ _=>2
 | .store _ _ _=>3
 | .convert _ _ _=>4
 | .call c=>(match c.callee with| .builtin .append=>3| .builtin .copy=>3| .builtin _=>0|_=>3)
 |_=>0
def uA(E:Env)(o:Op)(ρ:Operand->ψ)(h:Hp):Option (ψ×Nat):=
 match o with
 | .load t a=>(match ρ a with| CH (ξ ad)=>(match oN E t h ad with|some v=>ξ (v,ad.block)|none=>θ)|_=>θ)
 |_=>θ
structure Cal where
 call:FuncId->List ψ->Hp->Nat->Option (ψ×Hp×Nat×List Nat)
 yl:Nat->List ψ->Hp->Nat->Option (ψ×Hp×Nat×List Nat)
structure Ctx where
 E:Env
 C:Cal
 L:Nat
 round:Option Nat
 n0:Nat
 nt:Nat
def addW(n0:Nat):List Nat->List Nat->List Nat
 |[],w=>w
 |b::r,w=>(match Dd (3*n0) b with|true=>addW n0 r w|false=>addW n0 r (b::w))
def putK{β:Type}(nt:Nat)(t:Tr ψ)(d:Option Tmp)(v:ψ)(k:Tr ψ->Option β):Option β:=
 match d with
 |some i=>(match Dd nt i with|true=>θ|false=>t.set i v k)
 |none=>k t
def done{β:Type}(X:Ctx)(s:St)(d:Option Tmp)(v:ψ)(h:Hp)(n:Nat)(w:List Nat)(k:St->Option β):Option β:=
 bp v λv=>putK X.nt s.t d v λt=>uP n λn=>k {t,h,n,w:=addW X.n0 w s.w}
def Mc{β:Type}(X:Ctx)(s:St)(d:Option Tmp)(m:Mk)(k:St->Option β):Option β:=
 pa m.c λc=>s.h.set (m.name s.n) (ξ (.row c m.e)) λh=>done X s d (m.val s.n) h (s.n+1) [] k
def effK{β:Type}(X:Ctx)(s:St)(o:Oper)(k:St->List Nat->Option β):Option β:=
 match effE X.E o.op (ev s.t) s.h s.n with
 |some (.val v h n w)=>done X s o.dst v h n w λs=>k s w
 |some (.enter f args)=>(match X.C.call f args s.h s.n with|some (v,h,n,w)=>done X s o.dst v h n w λs=>k s w|none=>θ)
 |some (.round l args)=>(match X.C.yl l args s.h s.n with|some (v,h,n,w)=>done X s o.dst v h n w λs=>k s w|none=>θ)
 |none=>θ
def Mx{β:Type}(X:Ctx)(s:St)(o:Oper)(k:St->Option β):Option β:=
 match Kd o.op with
 |0=>(match yy X.E o.op (ev s.t)with|some v=>done X s o.dst v s.h s.n [] k|none=>θ)
 |1=>(match uA X.E o.op (ev s.t) s.h with|some (v,_)=>done X s o.dst v s.h s.n [] k|none=>θ)
 |2=>(match Kl X.E o.op (ev s.t)with|some m=>Mc X s o.dst m k|none=>θ)
 |3=>effK X s o λs _=>k s
 |_=>
  match Kl X.E o.op (ev s.t)with
  |some m=>Mc X s o.dst m k
  |none=>
   match o.op with
   | .convert t d x=>(match Nu X.E t d (ev s.t x) s.h with|some v=>done X s o.dst v s.h s.n [] k|none=>(match yy X.E o.op (ev s.t)with|some v=>done X s o.dst v s.h s.n [] k|none=>θ))
   |_=>θ
def vf(ops:List Oper)(t:Tr ψ)(o:Oper):Bool:=
 match o.guard with
 |none=>φ
 |some (j,b)=>
  match ops[j]? with
  |some g=>(match g.dst with|some d=>(match nth t d with| U c=>(match b,c with|true,φ=>φ|false,χ=>φ|_,_=>χ)|_=>χ)|none=>χ)
  |none=>χ
def tM(X:Ctx)(ops:List Oper)(l:List Oper):St->Option St:=
 List.rec (motive:=λ_=>St->Option St) (λs=>ξ s)
  (λo _ ih s=>Hq (motive:=λ_=>Option St) (done X s o.dst undef s.h s.n [] ih) (Mx X s o ih) (vf ops s.t o)) l
structure Dr where
 s:St
 al:List (Nat×Nat)
 ld:List (Nat×Nat)
 ef:List (Nat×Hp×List Nat)
def memN(b:Nat):List Nat->Bool
 |[]=>χ
 |c::r=>(match DK b c with|true=>φ|false=>memN b r)
def ya(m:Nat)(W:List Nat):List (Nat×Nat)->Bool
 |[]=>φ
 |(i,b)::r=>(match m.testBit i|| !memN b W with|true=>ya m W r|false=>χ)
def qS(u b:Nat):List (Nat×Hp×List Nat)->Bool
 |[]=>φ
 |(e,_,W)::r=>(match HI e u|| !memN b W with|true=>qS u b r|false=>χ)
def vQ(m:Nat):List (Nat×Hp×List Nat)->Nat->Hp->Nat×Hp
 |[],u,h=>(u,h)
 |(e,g,_)::r,u,h=>(match m.testBit e with|true=>vQ m r u h|false=>vQ m r e g)
def qn(m b:Nat):List (Nat×Nat)->Bool
 |[]=>φ
 |(j,c)::r=>(match m.testBit j|| !Nat.beq b c with|true=>qn m b r|false=>χ)
def xJ(m:Nat):List (Nat×Nat)->Bool
 |[]=>φ
 |(j,_)::r=>(match m.testBit j with|true=>xJ m r|false=>χ)
def gu(m:Nat):List (Nat×Hp×List Nat)->Bool
 |[]=>φ
 |(j,_)::r=>(match m.testBit j with|true=>gu m r|false=>χ)
def Nv{β:Type}(X:Ctx)(i m:Nat)(o:Oper)(d:Dr)(k:Dr->Option β):Option β:=
 match Kd o.op with
 |1=>
  match vQ m d.ef i d.s.h with
  |(u,h)=>
   match uA X.E o.op (ev d.s.t) h with
   |some (v,b)=>(match qS u b d.ef&&qn m b d.al with|true=>done X d.s o.dst v d.s.h d.s.n [] λs=>k {d with s,ld:=(i,b)::d.ld}|false=>θ)
   |none=>θ
 |2=>
  match Kl X.E o.op (ev d.s.t)with
  |some mk=>Mc X d.s o.dst mk λs=>k {d with s,al:=(i,mk.name d.s.n)::d.al}
  |none=>θ
 |3=>
  match gu m d.ef&&xJ m d.al with
  |true=>effK X d.s o λs W=>(match ya m W d.ld&&Dd d.s.n s.n with|true=>k {d with s,ef:=(i,d.s.h,W)::d.ef}|false=>θ)
  |false=>θ
 |_=>(match yy X.E o.op (ev d.s.t)with|some v=>done X d.s o.dst v d.s.h d.s.n [] λs=>k {d with s}|none=>θ)
def xA:List Oper->List Nat->List Nat
 |[],acc=>acc
 |o::r,acc=>xA r (acc++[o.after.toList.foldl (λs e=>match Ez .any e with|true=>s|||2^e.on|||acc.getD e.on 0|false=>s) 0])
def wp(X:Ctx)(ops:List Oper):List Oper->List Nat->Nat->Dr->Option St
 |[],_,_,d=>ξ d.s
 |o::r,m::ms,i,d=>
  match vf ops d.s.t o with
  |true=>Nv X i m o d λd=>wp X ops r ms (i+1) d
  |false=>done X d.s o.dst undef d.s.h d.s.n [] λs=>wp X ops r ms (i+1) {d with s}
 |_,_,_,_=>θ
def fZ(f:St->Option (Ex×St))(n:Nat):St->Option (Ex×St):=
 II (motive:=λ_=>St->Option (Ex×St)) (λ_=>θ) (λ_ ih s=>match f s with|some (.normal,s')=>ih s'|r=>r) n
def N3:Bool->Option Code->Option Ex
 |true,θ=>ξ .normal
 |false,ξ .ret=>ξ .ret
 |false,ξ (.exit id)=>ξ (.exit id)
 |_,_=>θ
def qQ(X:Ctx)(g:ψ)(ps:List Tmp)(assign body:Code)(s:St):Option (Ex×St):=
 match g,X.round with
 | .func (.func gf) first cap,θ=>
  uP (s.n+1) λl=>uP (l+1) λn2=>
  s.h.set (3*s.n+2) (ξ .dfr) λh=>h.set (3*l+2) (ξ (.loop φ θ s.t X.nt ps assign body (3*s.n+2))) λh=>
  match X.C.call gf (first.toList++([.func (.yield (3*l+2)) #[] #[]]++cap.toList)) h n2 with
  |some (_,h3,n3,w3)=>
   match h3.at (3*l+2),h3.at (3*s.n+2)with
   |some (.loop r p _ _ _ _ _ _),ξ .dfr=>
    match N3 r p with
    |some x=>h3.set (3*l+2) θ λh4=>h4.set (3*s.n+2) θ λh4=>ξ (x,{t:=s.t,h:=h4,n:=n3,w:=addW X.n0 w3 s.w})
    |none=>θ
   |_,_=>θ
  |none=>θ
 |_,_=>θ
def vG(X:Ctx)(c:Code):St->Option (Ex×St):=
 Code.rec (motive:=λ_=>St->Option (Ex×St))
  (λs=>ξ (.normal,s))
  (λ_ ops draw s=>match draw with
   |false=>(match tM X ops.toList ops.toList s with|some s=>ξ (.normal,s)|none=>θ)
   |true=>(match wp X ops.toList ops.toList (xA ops.toList []) 0 ⟨s,[],[],[]⟩with|some s=>ξ (.normal,s)|none=>θ))
  (λ_ _ ia ib s=>match ia s with|some (.normal,s')=>ib s'|r=>r)
  (λc _ _ ia ib s=>match ev s.t c with| U φ=>ia s| U χ=>ib s|_=>θ)
  (λid _ ib s=>match ib s with|some (.exit j,s')=>(match DK j id with|true=>ξ (.normal,s')|false=>ξ (.exit j,s'))|r=>r)
  (λ_ ib s=>fZ ib X.L s)
  (λf ps assign body _ _ s=>qQ X (ev s.t f) ps.toList assign body s)
  (λid s=>ξ (.exit id,s))
  (λ_ ib s=>ib s)
  (λ_ s=>ξ (.normal,s))
  (λ_ _=>θ)
  (λs=>ξ (.ret,s))
  (λ_ _=>θ) c
def resE(E:Env)(s:St):List ResultVar->Option (List ψ)
 |[]=>ξ []
 | .tmp t::r=>(match resE E s r with|some l=>ξ (nth s.t t::l)|none=>θ)
 | .cell a t::r=>
  match nth s.t a with
  | CH (ξ ad)=>(match oN E t s.h ad,resE E s r with|some v,ξ l=>ξ (v::l)|_,_=>θ)
  |_=>θ
def oq{β:Type}:List ψ->Nat->Tr ψ->(Tr ψ->Option β)->Option β
 |[],_,t,k=>k t
 |v::r,i,t,k=>t.set i v λt=>oq r (i+1) t k
def flat:ψ->Bool
 | U _=>φ| CC _ _=>φ| CG _=>φ|_=>χ
def uQ:List ψ->Bool
 |[]=>φ
 |v::r=>(match flat v with|true=>uQ r|false=>χ)
def Md(E:Env)(C:Cal)(L:Nat)(f:FuncId)(args:List ψ)(h:Hp)(n:Nat):Option (ψ×Hp×Nat×List Nat):=
 match E.fn f with
 |some fn=>
  match fn.body with
  |some body=>
   match Dd (O args) fn.ntmps with
   |true=>
    oq args 0 (Tr.mk undef E.dT) λt=>
    match vG {E,C,L,round:=θ,n0:=n,nt:=fn.ntmps} body {t,h,n,w:=[]}with
    |some (.exit _,_)=>θ
    |some (_,s)=>
     match resE E s fn.results.toList with
     |some vs=>
      oU vs λvs=>
      match E.pure f&&uQ vs,s.w with
      |true,[]=>ξ (match vs with|[v]=>v|vs=>.tuple ⟨vs⟩,h,n,[])
      |_,w=>ξ (match vs with|[v]=>v|vs=>.tuple ⟨vs⟩,s.h,s.n,w)
     |none=>θ
    |none=>θ
   |false=>θ
  |none=>θ
 |none=>θ
def vv(E:Env)(C:Cal)(L:Nat)(l:Nat)(args:List ψ)(h:Hp)(n:Nat):Option (ψ×Hp×Nat×List Nat):=
 match h.at l with
 |some (.loop φ θ t0 nt0 ps0 assign0 body0 _)=>
  match DK (O args) (O ps0) with
  |true=>
   setPs nt0 ps0 args t0 λt1=>
   match vG {E,C,L,round:=ξ l,n0:=n,nt:=nt0} assign0 {t:=t1,h,n,w:=[]}with
   |some (.normal,s1)=>
    match s1.h.at l with
    |some (.loop φ θ t nt ps assign body d)=>
     s1.h.set l (ξ (.loop χ θ t nt ps assign body d)) λh1=>
     match vG {E,C,L,round:=ξ l,n0:=n,nt:=nt0} body0 {s1 with h:=h1,w:=l::s1.w}with
     |some (x,s2)=>
      match s2.h.at l with
      |some (.loop _ _ t nt ps assign body d)=>
       match x with
       | .normal=>s2.h.set l (ξ (.loop φ θ t nt ps assign body d)) λh2=>ξ (U φ,h2,s2.n,l::s2.w)
       | .ret=>s2.h.set l (ξ (.loop χ (ξ .ret) t nt ps assign body d)) λh2=>ξ (U χ,h2,s2.n,l::s2.w)
       | .exit id=>s2.h.set l (ξ (.loop χ (ξ (.exit id)) t nt ps assign body d)) λh2=>ξ (U χ,h2,s2.n,l::s2.w)
      |_=>θ
     |none=>θ
    |_=>θ
   |_=>θ
  |false=>θ
 |_=>θ
where
 setPs {β:Type} (nt:Nat):List Tmp->List ψ->Tr ψ->(Tr ψ->Option β)->Option β
  |p::ps,v::vs,t,k=>(match Dd nt p with|true=>θ|false=>t.set p v λt=>setPs nt ps vs t k)
  |_,_,t,k=>k t
def calN(E:Env)(L:Nat)(k:Nat):Cal:=
 II (motive:=λ_=>Cal) ⟨λ_ _ _ _=>θ,λ_ _ _ _=>θ⟩ (λ_ C=>⟨λf a h n=>Md E C L f a h n,λl a h n=>vv E C L l a h n⟩) k
def Tr.get_lf(d:α)(i:Nat):Tr.get d .lf i=d:=rfl
def Tr.get_zero(d:α)(l:Tr α)(v:α)(r:Tr α):Tr.get d (.nd l v r) 0=v:=rfl
def Tr.get_succ(d:α)(l:Tr α)(v:α)(r:Tr α)(j:Nat):
  Tr.get d (.nd l v r) (j+1)=if j%2=0 then Tr.get d l (j/2)else Tr.get d r (j/2):=by show Hq (motive:=λ_=>α) (Tr.get d r (j/2)) (Tr.get d l (j/2)) (DK (j%2) 0)=_;by_cases h:j%2=0;rw[Cw h,h];rfl;have:j%2=1:=Z;rw[Cv h,this];rfl
def Tr.get_new(d v:α):∀(f i:Nat),i<=f->∀j,Tr.get d (Tr.new d v f i) j=if j=i then v else d:=by
 intro f;induction f with
 |zero=>
  intro i b j;have:i=0:=Z;subst this;show Tr.get d (.nd .lf v .lf) j=_;cases j with
  |zero=>rfl
  |succ j=>rw[Tr.get_succ];simp[Tr.get_lf]
 |succ f ih=>
  intro i b j;cases i with
  |zero=>
   show Tr.get d (.nd .lf v .lf) j=_;cases j with
   |zero=>rfl
   |succ j=>rw[Tr.get_succ];simp[Tr.get_lf]
  |succ i=>
   have g:Tr.new d v (f+1) (i+1)=if i%2=0 then .nd (Tr.new d v f (i/2)) d .lf else .nd .lf d (Tr.new d v f (i/2)):=(by show Hq (motive:=λ_=>Tr α) (.nd .lf d (Tr.new d v f (i/2))) (.nd (Tr.new d v f (i/2)) d .lf) (DK (i%2) 0)=_;by_cases h:i%2=0;rw[Cw h,h];rfl;have:i%2=1:=Z;rw[Cv h,this];rfl);rw[g];have a:=ih (i/2) Z;by_cases h:i%2=0;rw[Cw h];cases j with
   |zero=>rw[Tr.get_zero];simp
   |succ j=>
    rw[Tr.get_succ,a,Tr.get_lf];by_cases hj:j%2=0;by_cases e:j=i;subst e;simp[hj];have:¬j/2=i/2:=Z;simp[hj,e,this];have:¬j=i:=by rintro rfl;exact hj h
    simp[hj,this]
   rw[Cv h];cases j with
   |zero=>rw[Tr.get_zero];simp
   |succ j=>
    rw[Tr.get_succ,a,Tr.get_lf];by_cases hj:j%2=0;have:¬j=i:=by rintro rfl;exact h hj
    simp[hj,this];by_cases e:j=i;subst e;simp[hj];have:¬j/2=i/2:=Z;simp[hj,e,this]
section
variable [Dflt α]
def Tr.put(t:Tr α):Nat->α->Tr α:=
 Tr.rec (motive:=λ_=>Nat->α->Tr α) (λi v=>Tr.new Dflt.d v i i)
  (λl x r il ir i v=>II (motive:=λ_=>Tr α) (.nd l v r)
   (λj _=>Hq (motive:=λ_=>Tr α) (.nd l x (ir (j/2) v)) (.nd (il (j/2) v) x r) (DK (j%2) 0)) i) t
def Tr.put_zero(l:Tr α)(x:α)(r:Tr α)(v:α):Tr.put (.nd l x r) 0 v=.nd l v r:=rfl
def Tr.put_succ(l:Tr α)(x:α)(r:Tr α)(j:Nat)(v:α):
  Tr.put (.nd l x r) (j+1) v=if j%2=0 then .nd (Tr.put l (j/2) v) x r else .nd l x (Tr.put r (j/2) v):=by show Hq (motive:=λ_=>Tr α) (.nd l x (Tr.put r (j/2) v)) (.nd (Tr.put l (j/2) v) x r) (DK (j%2) 0)=_;by_cases h:j%2=0;rw[Cw h,h];rfl;have:j%2=1:=Z;rw[Cv h,this];rfl
def Tr.set_eq:∀(t:Tr α) (i:Nat) (v:α) (k:Tr α->Option β),Tr.set t i v k=k (Tr.put t i v):=by
 intro t;induction t with
 |lf=>intro i v k;rfl
 |nd l x r il ir=>
  intro i v k;cases i with
  |zero=>rfl
  |succ j=>
   rw[Tr.put_succ];show Hq (motive:=λ_=>Option β) (Tr.set r (j/2) v λr=>k (.nd l x r)) (Tr.set l (j/2) v λl=>k (.nd l x r)) (DK (j%2) 0)=_;by_cases h:j%2=0;rw[Cw h,h];exact il _ _ _;have:j%2=1:=Z;rw[Cv h,this];exact ir _ _ _
def Tr.get_put(d:α)(a:d=Dflt.d:=by rfl):∀(t:Tr α) (i:Nat) (v:α) (j:Nat),Tr.get d (Tr.put t i v) j=if j=i then v else Tr.get d t j:=by
 intro t;induction t with
 |lf=>
  intro i v j;subst a;exact Tr.get_new _ v i i (Nat.le_refl _) j
 |nd l x rr il ir=>
  intro i v j;cases i with
  |zero=>
   rw[Tr.put_zero];cases j with
   |zero=>rfl
   |succ j=>rw[Tr.get_succ,Tr.get_succ];simp
  |succ i=>
   rw[Tr.put_succ];by_cases hi:i%2=0;rw[if_pos hi];cases j with
   |zero=>simp[Tr.get_zero]
   |succ j=>
    rw[Tr.get_succ,Tr.get_succ,il];by_cases hj:j%2=0;simp only[hj,if_true];by_cases hji:j=i;subst hji;simp;have:¬j/2=i/2:=Z;simp[this,hji];have:¬j=i:=by rintro rfl;exact hj hi
    simp[hj,this]
   rw[if_neg hi];cases j with
   |zero=>simp[Tr.get_zero]
   |succ j=>
    rw[Tr.get_succ,Tr.get_succ,ir];by_cases hj:j%2=0;have:¬j=i:=by rintro rfl;exact hi hj
    simp[hj,this];simp only[hj,if_false];by_cases hji:j=i;subst hji;simp;have:¬j/2=i/2:=Z;simp[this,hji]
def Tr.set_some(d:α)(t:Tr α)(i:Nat)(v:α)(k:Tr α->Option β)(r:β)(h:Tr.set t i v k=ξ r)(a:d=Dflt.d:=by rfl):
  ∃t',k t'=ξ r/\∀j,Tr.get d t' j=if j=i then v else Tr.get d t j:=
 ⟨Tr.put t i v,(Tr.set_eq t i v k).symm.trans h,Tr.get_put d a t i v⟩
end
theorem Tr.get_mk(d:α):∀(n i:Nat),Tr.get d (Tr.mk d n) i=d:=by
 intro n;induction n with
 |zero=>intro i;rfl
 |succ n ih=>
  intro i;show Tr.get d (.nd (Tr.mk d n) d (Tr.mk d n)) i=d;cases i with
  |zero=>rfl
  |succ i=>rw[Tr.get_succ];split<;>exact ih _
def xm(n:Nat)(k:Nat->β):uP n k=k n:=by cases n<;>rfl
def Vj(n:Int)(k:Int->β):O5 n k=k n:=by cases n<;>simp[O5,xm]
theorem xZ(l:List α)(k:List α->β):pa l k=k l:=by induction l generalizing k<;>simp_all [pa]
def Vk(a:Addr)(k:Addr->β):N0 a k=k a:=by have⟨b,o,s⟩:=a;cases s<;>simp[N0,xm]
def rJ(v:ψ)(k:ψ->β):bp v k=k v:=by
 unfold bp;split<;>first|rfl|simp[Vj,xZ,Vk,xm]|skip
 rename_i b;cases b<;>rfl
def mT(l:List ψ)(k:List ψ->β):oU l k=k l:=by
 induction l generalizing k with
 |nil=>rfl
 |cons a l ih=>simp[oU,rJ,ih]
structure Ren where
 b:Nat->Nat
 x:Nat->Nat
 ex:∀n,gro n=χ->x n=0
 gl:∀g,b (3*g)=g
def Ren.addr(ρ:Ren)(a:Addr):Addr:=⟨ρ.b a.block,a.off,a.spot⟩
def Ren.adrS(ρ:Ren)(a:Addr)(l c:Nat):Addr:=
 match l,c,a.spot,gro a.block with
 |0,0,ξ s,φ=>if ρ.x a.block=0 then⟨ρ.b a.block,s,θ⟩else⟨ρ.b a.block,a.off,θ⟩
 |_,_,_,_=>ρ.addr a
theorem Ren.adrS_eq(ρ:Ren){a:Addr}(h:a.spot=θ\/l≠0\/c≠0):ρ.adrS a l c=ρ.addr a:=by unfold Ren.adrS;grind
def Ren.adrS_len(ρ:Ren)(a:Addr){b:Nat}(h:l<=b)(h':b<=c):ρ.adrS a b c=ρ.adrS a l c:=by by_cases hc:c=0;have d:b=l:=Z;rw[d];rw[ρ.adrS_eq (.inr (.inr hc)),ρ.adrS_eq (.inr (.inr hc))]
def Ren.adrS_old(ρ:Ren){a:Addr}(h:gro a.block=χ)(l c:Nat):ρ.adrS a l c=ρ.addr a:=by unfold Ren.adrS;split;rename_i hg;rw[h]at hg;cases hg;rfl
@[simp] theorem Ren.adrS_none(ρ : Ren)(b off l c : Nat) : ρ.adrS ⟨b, off, θ⟩ l c = ⟨ρ.b b, off, θ⟩ := ρ.adrS_eq (.inl ω)
def Ren.fn(ρ:Ren):Fn->Fn
 | .yield l=>.yield (ρ.b l)
 |f=>f
mutual
def conc(ρ:Ren):ψ->ψ
 | CH (ξ a)=>CH (ξ (ρ.addr a))
 | Y (ξ a) l c=>Y (ξ (ρ.adrS a l c)) l (c+ρ.x a.block)
 | .func f a b=>.func (ρ.fn f) (nw ρ a) (nw ρ b)
 | .agg cs=>.agg (nw ρ cs)
 | .tuple cs=>.tuple (nw ρ cs)
 |v=>v
def nw(ρ:Ren):Array ψ->Array ψ
 |⟨l⟩=>⟨mg ρ l⟩
def mg(ρ:Ren):List ψ->List ψ
 |[]=>[]
 |v::r=>conc ρ v::mg ρ r
end
def Vl(ρ:Ren)(l:List ψ):mg ρ l=l.map (conc ρ):=by
 induction l with
 |nil=>simp[mg]
 |cons a l ih=>simp[mg,ih]
def jb(ρ:Ren)(l:Array ψ):nw ρ l=l.map (conc ρ):=by have⟨l⟩:=l;simp[nw,Vl]
section
variable (ρ:Ren)
@[simp] theorem uV(b : Bool) : conc ρ (U b) = U b := by simp[conc]
@[simp] theorem ja(k : IntKind)(n : Int) : conc ρ (CC k n) = CC k n := by simp[conc]
@[simp] theorem vn(s : ByteArray) : conc ρ (CG s) = CG s := by simp[conc]
@[simp] theorem Vm(a : Addr) : conc ρ (CH (ξ a)) = CH (ξ (ρ.addr a)) := by simp[conc]
@[simp] theorem conc_nil : conc ρ (CH θ) = CH θ := by simp[conc]
@[simp] theorem z5(a : Addr)(l c : Nat) : conc ρ (Y (ξ a) l c) = Y (ξ (ρ.adrS a l c)) l (c + ρ.x a.block) := by simp[conc]
@[simp] theorem rN(l c : Nat) : conc ρ (Y θ l c) = Y θ l c := by simp[conc]
@[simp] theorem Pa(f : Fn)(a b : Array ψ) : conc ρ (.func f a b) = .func (ρ.fn f) (a.map (conc ρ)) (b.map (conc ρ)) := by simp[conc, jb]
@[simp] theorem uE(cs : Array ψ) : conc ρ (.agg cs) = .agg (cs.map (conc ρ)) := by simp[conc, jb]
@[simp] theorem QD(cs : Array ψ) : conc ρ (.tuple cs) = .tuple (cs.map (conc ρ)) := by simp[conc, jb]
@[simp] theorem Vn : conc ρ undef = undef := by simp[undef]
theorem qE(v:ψ):(conc ρ v).cells=v.cells.map (conc ρ):=by
 match v with
 | CH θ=>simp[ES]
 | CH (ξ _)=>simp[ES]
 | Y θ _ _=>simp[ES]
 | Y (ξ _) _ _=>simp[ES]
 | .func _ _ _=>simp[ES]
 | .agg _=>simp[ES]
 | .tuple _=>simp[ES]
 | U _=>simp[ES]
 | CC _ _=>simp[ES]
 | .float _ _=>simp[ES,conc]
 | .complex _ _ _=>simp[ES,conc]
 | CG _=>simp[ES]
 | .map _=>simp[ES,conc]
 | .chan _=>simp[ES,conc]
 | .nilFunc=>simp[ES,conc]
 | .nilIface=>simp[ES,conc]
 | .iface _ _=>simp[ES,conc]
theorem yS(v:ψ):zn v=v.cells.toList:=by cases v<;>rfl
def yz(v:ψ):zn (conc ρ v)=(zn v).map (conc ρ):=by rw[yS,yS,qE];simp
end
def pg{ρ:Ren}(h:qF v=φ):conc ρ v=v:=by unfold qF at h;split at h<;>first|(simp[conc];done)|cases h
theorem yA{ρ:Ren}(h:closed v=φ):conc ρ v=v:=by
 have a:∀l:List ψ,l.all qF=φ->l.map (conc ρ)=l:=λl h=>by
  rw[E3]at h;conv=>rhs;rw[<-HB l]
  exact D5 λv b=>pg (h v b)
 unfold closed at h;split at h;rename_i l;rw[uE];simp[a l h];rename_i l;rw[QD];simp[a l h];exact pg h
def Kv(m:Nat)(ρ ρ':Ren):Prop:=∀b,b<m->ρ'.b b=ρ.b b/\ρ'.x b=ρ.x b
def Kv.refl(m:Nat)(ρ:Ren):Kv m ρ ρ:=λ_ _=>⟨ω,ω⟩
def Kv.trans{a b c:Ren}(h:Kv m a b)(h':Kv m' b c)(hm:m<=m'):Kv m a c:=
 λk d=>⟨(h' k Z).1.trans (h k d).1,(h' k Z).2.trans (h k d).2⟩
def Kv.mono{a b:Ren}(h:Kv m a b)(hm:m'<=m):Kv m' a b:=λk d=>h k Z
def Nb(m:Nat)(v:ψ):Prop:=∀ρ ρ':Ren,Kv m ρ ρ'->conc ρ' v=conc ρ v
def Nb.mono(h:Nb m v)(hm:m<=m'):Nb m' v:=λρ b a=>h ρ b (a.mono hm)
def Nb.closed(h:closed v=φ):Nb m v:=λ_ _ _=>by rw[yA h,yA h]
def Nb.undef:Nb m undef:=λ_ _ _=>by simp
def Nb.int{k:IntKind}{n:Int}:Nb m (CC k n):=λ_ _ _=>by simp
def Nb.bool{b:Bool}:Nb m (U b):=λ_ _ _=>by simp
def Nb.string{b:ByteArray}:Nb m (CG b):=λ_ _ _=>by simp
def Nb.map{l:List ψ}(h:∀v∈l,Nb m v){ρ a:Ren}(b:Kv m ρ a):l.map (conc a)=l.map (conc ρ):=
 D5 λv d=>h v d ρ a b
section
variable{ρ:Ren}
structure EnvOk (E:Env)(P:Program):Prop where
 und:∀t d,E.und t=ξ d->∃D,P.underlying t=ξ D/\TD.of D=d
 fld:∀t fs,E.und t=ξ (.struct fs)->∀f∈fs,∃r,E.inf f.1=ξ r
 cmp:∀t fs,E.cmp t=ξ fs->∃F:Array Field,P.underlying t=ξ (.struct F)/\fs=F.toList.map (λf=>(f.type,f.offset))/\(∀f∈F.toList,f.name≠ "_")/\P.stoodInHeld t=χ/\P.eqGuardType P.depth t=χ
 inf:∀t s b z,E.inf t=ξ (s,b,z)->(∃i,P.info? t=ξ i/\i.size=s/\i.bytes=b/\i.zero=ξ z)/\closed z=φ
section
variable{E:Env}{P:Program}(hE:EnvOk E P)
include hE
def EnvOk.string(h:E.und t=ξ .string):P.underlying t=ξ .string:=by have⟨D,a,c⟩:=hE.und _ _ h;cases D<;>simp[TD.of]at c<;>exact a
def EnvOk.bool(h:E.und t=ξ .bool):P.underlying t=ξ .bool:=by have⟨D,a,c⟩:=hE.und _ _ h;cases D<;>simp[TD.of]at c<;>exact a
def EnvOk.int{k:IntKind}(h:E.und t=ξ (.int k)):P.underlying t=ξ (.int k):=by have⟨D,c,a⟩:=hE.und _ _ h;cases D<;>simp[TD.of]at a;subst a;exact c
def EnvOk.slice(h:E.und t=ξ (.slice e)):P.underlying t=ξ (.slice e):=by have⟨D,c,a⟩:=hE.und _ _ h;cases D<;>simp[TD.of]at a;subst a;exact c
def EnvOk.array(h:E.und t=ξ (.array n e)):P.underlying t=ξ (.array n e):=by have⟨D,c,a⟩:=hE.und _ _ h;cases D<;>simp[TD.of]at a;obtain⟨rfl,rfl⟩:=a;exact c
def EnvOk.struct{a:List (TypeId×Nat)}(h:E.und t=ξ (.struct a)):
  ∃F:Array Field,P.underlying t=ξ (.struct F)/\a=F.toList.map λf=>(f.type,f.offset):=by have⟨D,g,c⟩:=hE.und _ _ h;cases D<;>simp[TD.of]at c;exact⟨_,g,c.symm⟩
def EnvOk.some_{d:TD}(h:E.und t=ξ d):∃D,P.underlying t=ξ D:=by have⟨D,a,_⟩:=hE.und _ _ h;exact⟨D,a⟩
def z9{s:Nat}(h:E.inf t=ξ (s,b,z))(w:World):(sizeOf t).run P w=.ok s w:=by have⟨⟨i,a,c,_⟩,_⟩:=hE.inf _ _ _ _ h;simp[sizeOf,typeInfo,a,c]
def ry{s:Nat}(h:E.inf t=ξ (s,b,z))(w:World):(zeroValue t).run P w=.ok z w:=by have⟨⟨i,a,_,_,c⟩,_⟩:=hE.inf _ _ _ _ h;simp[zeroValue,typeInfo,a,c]
theorem ti{b:Bool}(h:isAgg E t=ξ b)(w:World):(ah9 t).run P w=.ok b w:=by
 unfold isAgg at h;split at h
 .obtain⟨F,a,_⟩:=hE.struct gY;simp at h;subst h;simp[ah9,run_underlying a]
 .have a:=hE.array gY;simp at h;subst h;simp[ah9,run_underlying a]
 .rename_i d hs ha hd;obtain⟨D,a,c⟩:=hE.und _ _ hd;simp at h;subst h;cases D<;>simp[TD.of]at c<;>first
   |(simp[ah9,run_underlying a];done)
   |(exact(hs _ (by rw[c])).elim)
   |(subst c;exact(hs _ rfl).elim)
   |(exact(ha _ _ rfl).elim)
   |(subst c;exact(ha _ _ rfl).elim)
 cases h
end
def gG(a b:Int):x1 a b=(a==b):=by cases a<;>cases b<;>simp only[x1]<;>(rw[If];simp[Nat.beq_eq,ai0];try omega)
def gF(a b:Int):x3 a b=decide (a<=b):=by cases a<;>cases b<;>simp only[x3]<;>(rw[If];simp[Nat.ble_eq,ai0];try omega)
def N4(a b:Int):x2 a b=decide (a<b):=by rw[x2,gF,If];simp
def QE{P:Program}(c:P.underlying t=ξ .bool)(w:World)(d:Nat)(a b:Bool):(Iv (d+1) t (U a) (U b)).run P w=.ok (a==b) w:=by simp[Iv,run_underlying c]
def Vo{P:Program}(f:P.underlying t=ξ (.slice e))(w:World)(d:Nat)(a:Option Addr)(n c n' c':Nat):(Iv (d+1) t (Y a n c) (Y θ n' c')).run P w=.ok a.isNone w:=by cases a<;>simp[Iv,run_underlying f]
section
variable{E:Env}{P:Program}(hE:EnvOk E P)(w:World)
include hE
def N5(ρ:Ren)(h:MP E t cs off=ξ v):
  (part t (cs.map (conc ρ)).toArray off).run P w=.ok (conc ρ v) w:=by unfold MP at h;split at h;rename_i ha hi;simp at h;subst h;simp[part,ti hE ha,z9 hE hi,List.extract_eq_take_drop,F2,H2];rename_i ha;simp[part,ti hE ha,h];cases h
def QF{x y:ψ}{b:Bool}(ρ:Ren)(d:Nat)(h:O6 E t x y=ξ b):(Iv (d+1) t (conc ρ x) (conc ρ y)).run P w=.ok b w:=by
 unfold O6 at h;split at h;rename_i k x k' y;split at h;rename_i ki hu hk;have a:k=k':=by cases k<;>cases k'<;>simp[ikEq]at hk<;>rfl
 subst a;injection h with h;subst h;rw[ja,ja,run_equalIn_int w d t k ki x y (hE.int hu),gG];cases h;split at h;rename_i hu;injection h with h;subst h;rw[vn,vn,run_equalIn_string w d t _ _ (hE.string hu),Hm,Hm];cases h;split at h;rename_i hu;injection h with h;subst h;rw[uV,uV];exact QE (hE.bool hu) w d _ _;cases h;cases h
theorem Vp {a b:List ψ}(ρ:Ren)(d:Nat):∀(F:List Field) (v:Bool),(∀f∈F,f.name≠ "_")->eqFs E a b (F.map λf=>(f.type,f.offset))=ξ v->(ae2 (d+1) (a.map (conc ρ)).toArray (b.map (conc ρ)).toArray F).run P w=.ok v w:=by
 intro F;induction F with
 |nil=>intro v _ h;injection h with h;subst h;simp[ae2]
 |cons f F ih=>
  intro v hn h;simp only[Gq]at h;unfold eqFs at h;split at h
  .rename_i x y hx hy;have h1:=N5 hE w ρ hx;have h2:=N5 hE w ρ hy;simp only[ae2,Cw (hn f eC),D8,h1,h2,DG];split at h
   .rename_i he;rw[QF hE w ρ d he];simp only[DG,H3,Ew,if_false];exact ih v (λg hg=>hn g (by simp[hg])) h
   .rename_i he;rw[QF hE w ρ d he];injection h with h
    subst h;simp
   cases h
  cases h
theorem Vr{f:BinOp}{a b:ψ}(ρ:Ren)(h:binE E f t a b=ξ v):
  ((do eqGuard f t x y (conc ρ a) (conc ρ b);binOp f t (conc ρ a) (conc ρ b)):Sem ψ).run P w=.ok (conc ρ v) w:=by
 unfold binE at h;split at h
 .rename_i k m k' m';have l:(eqGuard f t x y (conc ρ (CC k m)) (conc ρ (CC k' m'))).run P w=.ok () w:=by
   simp[eqGuard];try (split<;>simp)
  simp only[D8,l,DG];split at h
  .rename_i hs;cases f<;>simp[isSh]at hs<;>simp[Ns]at h<;>obtain⟨A,rfl⟩:=h<;>simp[binOp,Op.shift,Int.not_lt.2 A]
  rename_i hs;split at h
  .rename_i hk;have L:k=k':=by cases k<;>cases k'<;>simp[ikEq]at hk<;>rfl
   subst L;cases f<;>simp[isSh]at hs<;>simp[intE,Nr]at h<;>first
    |(subst h;simp[binOp,ae3,Op.intBits,Op.intCmp,gG,N4,gF];done)
    |(subst h;simp[binOp,ae3,Op.intBits,Op.intCmp,gG,N4,gF];rw[If];simp;done)
    |(obtain⟨A,rfl⟩:=h;simp[binOp,Op.intDiv,A];done)
  cases h
 .rename_i s s';have l:(eqGuard f t x y (conc ρ (CG s)) (conc ρ (CG s'))).run P w=.ok () w:=by
   simp[eqGuard];try (split<;>simp)
  simp only[D8,l,DG];cases f<;>simp[strE]at h
  .obtain⟨A,rfl⟩:=h;have D:¬((s.size+s'.size:Nat):Int)>IntKind.i64.max:=by
    simp[IntKind.max,IntKind.signed,IntKind.bits];omega
   have e:s++s'=⟨⟨s.data.toList++s'.data.toList⟩⟩:=by
    apply ak1;rw[ByteArray.data_append];apply F7;simp
   simp only[binOp,vn,ae4];rw[Cv D,e];simp
  .subst h;simp[binOp,ae4,Hm]
  subst h;simp[binOp,ae4,Hm]
 .rename_i s s';have l:(eqGuard f t x y (conc ρ (U s)) (conc ρ (U s'))).run P w=.ok () w:=by
   simp[eqGuard];try (split<;>simp)
  simp only[D8,l,DG];unfold Qy at h;split at h<;>simp at h<;>subst h<;>(have G:=hE.bool gY;simp only[uV,binOp];simp[Op.equal,ao4,QE G w 9999])
 .rename_i s n c n' c';have l:(eqGuard f t x y (conc ρ (Y s n c)) (conc ρ (Y θ n' c'))).run P w=.ok () w:=by
   cases s<;>simp[eqGuard]<;>try (split<;>simp)
  simp only[D8,l,DG];unfold nilE at h;split at h<;>simp at h<;>subst h<;>(have G:=hE.slice gY;cases s<;>simp only[z5,rN,binOp]<;>simp[Op.equal,ao4,Vo G w 9999])
 .rename_i a b;unfold aggE at h;have C:∀g v,E.cmp t=ξ g->eqFs E a.toList b.toList g=ξ v->(eqGuard f t x y (conc ρ (.agg a)) (conc ρ (.agg b))).run P w=.ok () w/\(Iv 10000 t (conc ρ (.agg a)) (conc ρ (.agg b))).run P w=.ok v w:=λg v p q=>by
   obtain⟨F,J,rfl,M,N,K⟩:=hE.cmp _ _ p;rw[uE,uE];refine⟨run_eqGuard_agg w f t x y _ _ K,?_⟩;have B:P.fieldsOf t=F:=by simp[Program.fieldsOf,J]
   have:=run_equalIn_struct w 9999 t (a.map (conc ρ)) (b.map (conc ρ)) (by rw[B];exact J) N;rw[B]at this;rw[this];have D:=Vp hE w ρ 9998 F.toList v M q;have I:∀z:Array ψ,z.map (conc ρ)=(z.toList.map (conc ρ)).toArray:=λz=>by apply F7;simp
   rw[I a,I b];exact D
  split at h
  .rename_i g p;split at h
   .rename_i v q;injection h with h
    subst h;obtain⟨H,u⟩:=C g v p q;simp only[D8,H,DG,uV];rw[uE,uE]at u⊢;rw[run_eql_struct,u];rfl
   cases h
  .rename_i g p;split at h
   .rename_i v q;injection h with h
    subst h;obtain⟨H,u⟩:=C g v p q;simp only[D8,H,DG,uV];rw[uE,uE]at u⊢;rw[run_neq_struct,u];rfl
   cases h
  cases h
 cases h
omit hE in
def Vs{c:UnOp}{a:ψ}(ρ:Ren)(h:N2 c a=ξ v):(Op.unary c (conc ρ a)).run P w=.ok (conc ρ v) w:=by unfold N2 at h;split at h<;>simp at h<;>subst h<;>simp[Op.unary,ae3]
def Vt{d:TypeId}{a:ψ}(ρ:Ren)(h:kZ E t d a=ξ v):(convert t d (conc ρ a)).run P w=.ok (conc ρ v) w:=by
 unfold kZ at h;split at h
 .rename_i ht hd;have⟨D,c⟩:=hE.some_ ht;have f:=hE.int hd;simp at h;subst h;simp[convert,run_underlying c,run_underlying f,Conv.intToInt]
 .rename_i ht hd;have⟨D,c⟩:=hE.some_ ht;have f:=hE.string hd;simp at h;subst h;simp[convert,run_underlying c,run_underlying f]
 cases h
omit hE in
def mapA(ρ:Ren)(cs:Array ψ):(cs.toList.map (conc ρ)).toArray=cs.map (conc ρ):=by have⟨l⟩:=cs;simp
theorem Vu{a:ψ}{f:Nat}(ρ:Ren)(h:O7 E t a f=ξ v):(ao5 t (conc ρ a) f).run P w=.ok (conc ρ v) w:=by
 unfold O7 at h;split at h
 .rename_i fs cs hu;obtain⟨F,l,rfl⟩:=hE.struct hu;split at h
  .rename_i fl hfl;simp at hfl;obtain⟨m,c,rfl⟩:=hfl;have g:=N5 hE w ρ h;rw[mapA]at g;simp[ao5,run_underlying l,c,asAgg];exact g
  cases h
 cases h
def kM{a:ψ}{f:Nat}(ρ:Ren)(h:qw E t a f=ξ v):(ak2 t (conc ρ a) f).run P w=.ok (conc ρ v) w:=by unfold qw at h;split at h;rename_i fs ad hu;obtain⟨F,g,rfl⟩:=hE.struct hu;split at h;rename_i fl hfl;simp at hfl;obtain⟨l,c,rfl⟩:=hfl;split at h;rename_i sz _ _ hi;split at h;cases h;rename_i hsz;simp at h;subst h;simp[ak2,run_underlying g,c,G4,fieldPlace,z9 hE hi,hsz,Ren.addr,FF];split<;>rfl;cases h;cases h;cases h
def kE{a i:ψ}(ρ:Ren)(h:yV E t a i=ξ v):(JU t (conc ρ a) (conc ρ i)).run P w=.ok (conc ρ v) w:=by unfold yV at h;split at h;split at h;rename_i k j len e ad hu;have f:=hE.array hu;split at h;rename_i sz _ _ hi;split at h;rename_i hj;simp at h;subst h;simp[JU,asIntOf,run_underlying f,G4,hj.1,hj.2,z9 hE hi,Ren.addr,FF];split<;>rfl;cases h;cases h;rename_i k j e ad len c hu;have f:=hE.slice hu;split at h;rename_i sz _ _ hi;split at h;rename_i hj;simp at h;subst h;rw[z5,ρ.adrS_eq (.inr (.inl Z))];simp[JU,asIntOf,run_underlying f,hj.1,hj.2,z9 hE hi,Ren.addr,FF];split<;>rfl;cases h;cases h;cases h;cases h
theorem Vv{a i:ψ}(ρ:Ren)(h:iK E t a i=ξ v):(ae5 t (conc ρ a) (conc ρ i)).run P w=.ok (conc ρ v) w:=by
 unfold iK at h;split at h
 .split at h
  .rename_i k j len e cs hu;have f:=hE.array hu;split at h
   .rename_i sz _ _ hi;split at h
    .rename_i hj;have m:=N5 hE w ρ h;rw[mapA]at m;simp[ae5,asIntOf,run_underlying f,hj.1,hj.2,z9 hE hi];exact m
    cases h
   cases h
  .rename_i k j _ _ s hu;have f:=hE.string hu;split at h
   .rename_i hj;split at h
    .rename_i b hb;simp at h;subst h;have l:s[j.toNat]?=ξ b:=by
      have c:j.toNat<O s.data.toList:=(CK.1 hb).1;have:=ByteArray.getElem?_lt' s j.toNat (by simpa using c);rw[this];have g:=Lib.data_getElem? s j.toNat (by simpa using c);rw[hb]at g;exact g.symm
     simp[ae5,asIntOf,run_underlying f,hj,l]
    cases h
   cases h
  cases h
 cases h
omit hE in
def eG{a:ψ}(ρ:Ren)(h:kP a i=ξ v):(ak3 (conc ρ a) i).run P w=.ok (conc ρ v) w:=by unfold kP at h;split at h;simp at h;simp[ak3,h];cases h
def Vw{a:ψ}(ρ:Ren)(h:lenE E t a=ξ v):(Ji #[t] ty #[conc ρ a]).run P w=.ok (conc ρ v) w:=by
 unfold lenE at h;split at h
 .rename_i hu;have c:=hE.string hu;simp at h;subst h;simp[Ji,run_underlying c,goInt]
 .rename_i hu;have c:=hE.array hu;simp at h;subst h;simp[Ji,run_underlying c,goInt]
 .rename_i a _ _ hu;have c:=hE.slice hu;simp at h;subst h;cases a<;>simp[Ji,run_underlying c,goInt]
 cases h
omit hE in
def aJ{y:Nat}{c:BoundsCode}(h:bnd (ξ v) d y=ξ r):(Hg v y c).run P w=.ok r w:=by
 unfold bnd at h;split at h
 .rename_i hx;cases hx
 .rename_i k i hx;injection hx with hx
  subst hx;split at h
  .rename_i hj;simp at h;subst h;simp[Hg,asIntOf,hj.1,hj.2]
  cases h
 cases h
omit hE in
theorem tF{lo hi:Option ψ}{b:Bool}(ρ:Ren)(x:Nat)(f:bnd hi len cap=ξ j)(a:bnd lo 0 j=ξ i):
  (IJ b len (cap+x) (lo.map (conc ρ)) (hi.map (conc ρ)) θ).run P w=.ok (i,j,cap+x) w:=by
 have g:∀v c,hi=ξ v->(Hg (conc ρ v) (cap+x) c).run P w=.ok j w:=by
  rintro v c rfl;have m:bnd (ξ (conc ρ v)) len (cap+x)=ξ j:=by
   unfold bnd at f⊢;split at f<;>simp_all;omega
  exact aJ w m
 have l:∀v c,lo=ξ v->(Hg (conc ρ v) j c).run P w=.ok i w:=by
  rintro v c rfl;have p:bnd (ξ (conc ρ v)) 0 j=ξ i:=by
   unfold bnd at a⊢;split at a<;>simp_all
  exact aJ w p
 unfold IJ;cases hi with
 |none=>
  simp[bnd]at f;subst f;cases lo with
  |none=>simp[bnd]at a;subst a;simp
  |some v=>simp[l v _ rfl]
 |some u=>
  cases lo with
  |none=>simp[bnd]at a;subst a;simp[g u _ rfl]
  |some v=>simp[g u _ ω,l v _ rfl]
omit hE in
def QG(ρ:Ren)(a:Addr)(n:Nat):ρ.addr (a.add n)=(ρ.addr a).add n:=by
 unfold FF;split<;>rfl
omit hE in
def gm(a:Addr)(n:Nat):(a.add n).block=a.block:=by unfold FF;split<;>rfl
omit hE in
def qo(cap i sz:Nat)(a:Addr):(offA cap i sz a).block=a.block:=by
 unfold offA;split
 .rfl
 exact gm _ _
omit hE in
def fS(ρ:Ren)(cap i sz:Nat)(a:Addr):ρ.addr (offA cap i sz a)=if cap=i then ρ.addr a else(ρ.addr a).add (i*sz):=by
 unfold offA;split
 .rename_i h;rw[Cw (DC h)]
 rename_i h;rw[Cv (GJ h),QG]
omit hE in
def Vx{a:Addr}(c:(gro a.block&&(Dd 1 i&&Dd cap i))=χ):
  (if cap+ρ.x a.block=i then ξ (ρ.addr a)else ξ ((ρ.addr a).add (i*sz)))=ξ (ρ.addr (offA cap i sz a))/\
  cap+ρ.x a.block-i=cap-i+ρ.x (offA cap i sz a).block:=by
 rw[qo,fS];cases hgb:gro a.block with
 |false=>
  have p:=ρ.ex _ hgb;rw[p];refine⟨?_,Z⟩;by_cases h:cap=i<;>simp[h]
 |true=>
  rw[hgb]at c;have f:i=0\/i<cap:=by
   by_cases h0:i=0
   .exact .inl h0
   right;apply F3;intro g;have l:Dd 1 i=φ:=CP Z;have m:Dd cap i=φ:=CP g;rw[l,m]at c;cases c
  obtain rfl|f:=f
  .refine⟨?_,Z⟩;have e:∀b:Addr,b.add 0=b:=λb=>by simp[FF]
   simp[e]
  refine⟨?_,Z⟩;rw[Cv Z,Cv Z]
omit hE in
def oG(cap i sz b off:Nat):(offA cap i sz ⟨b,off,θ⟩).spot=θ:=by
 unfold offA;split
 .rfl
 unfold FF;split<;>rfl
omit hE in
def Vy(a:gro b=φ):(if i+ρ.x b=i then ξ (⟨ρ.b b,off,θ⟩:Addr)else ξ ((⟨ρ.b b,off,θ⟩:Addr).add (i*sz)))=ξ (ρ.adrS (endA (i*sz) ⟨b,off,θ⟩) 0 0):=by unfold endA Ren.adrS;by_cases hx:ρ.x b=0;simp[hx,a];simp only[hx,if_false,a];rw[Cv Z];unfold FF;split;rename_i h0;rw[h0];rfl;rfl
def Vz{a:ψ}{lo hi:Option ψ}(ρ:Ren)(h:xc E t a lo hi=ξ v):
  (Gr t (conc ρ a) (lo.map (conc ρ)) (hi.map (conc ρ)) θ).run P w=.ok (conc ρ v) w:=by unfold xc at h;split at h;rename_i s hu;have g:=hE.string hu;split at h;rename_i j hj;split at h;rename_i i hi';simp at h;subst h;have f:=tF (P:=P) (b:=χ) w ρ 0 hj hi';simp at f;simp[Gr,run_underlying g,IK,f];apply ak1;apply F7;rw[ad1];cases h;cases h;rename_i e ad len cap hu;have g:=hE.slice hu;split at h;rename_i sz _ _ j hi0 hj;split at h;rename_i i hi';split at h;simp at h;subst h;have f:=tF (P:=P) (b:=φ) w ρ 0 hj hi';simp at f;simp[Gr,run_underlying g,IK,f,z9 hE hi0];rename_i a;have f:=tF (P:=P) (b:=φ) w ρ (ρ.x a.block) hj hi';split at h;cases h;rename_i c hg;split at h;rename_i hc;simp only[DI]at hc;have q:=DC hc.1;have u:=DC hc.2;simp at h;subst h;have⟨l,m,p⟩:=a;simp only at c;subst c;simp[Gr,run_underlying g,IK,f,z9 hE hi0];subst q u;exact⟨Vy aD,Z,by show _=ρ.x l;omega⟩;cases h;rename_i c hg;simp at h;subst h;have⟨l,m,p⟩:=a;simp only at c;subst c;have A:=Vx (ρ:=ρ) (sz:=sz) hg;rw[z5,ρ.adrS_none,z5,ρ.adrS_eq (.inl (oG _ _ _ _ _))];simp[Gr,run_underlying g,IK,f,z9 hE hi0];exact A;cases h;cases h;rename_i len e a hu;have g:=hE.array hu;split at h;rename_i sz _ _ j hi0 hj;split at h;rename_i i hi' hg;simp at h;subst h;have f:=tF (P:=P) (b:=χ) w ρ 0 hj hi';simp at f;simp[Gr,run_underlying g,G4,f,z9 hE hi0];simp only[Bool.or_eq_false_iff,Option.isSome_eq_false_iff,Option.isNone_iff_eq_none]at hg;have⟨l,m,p⟩:=a;have c:=hg.2;simp only at c;subst c;rw[ρ.adrS_eq (.inl (oG _ _ _ _ _)),qo,fS];refine⟨ω,?_⟩;exact ρ.ex _ hg.1;cases h;cases h;cases h
def VA{a lo hi p:ψ}(ρ:Ren)(h:fB E t a lo hi p=ξ v):
  (Gr t (conc ρ a) (ξ (conc ρ lo)) (ξ (conc ρ hi)) (ξ (conc ρ p))).run P w=.ok (conc ρ v) w:=by
 unfold fB at h;split at h
 .rename_i e ad len cap k1 i k2 j k3 m hu;have s:=hE.slice hu;split at h
  .rename_i sz _ _ hi0;split at h
   .rename_i hb;simp only[DI,Fa]at hb;have⟨c,f,g,q,l⟩:=hb;rename_i hsz;have⟨B,C,A⟩:=ad;have l:A=θ:=by simpa using l
    subst l;have c:=Da c;have f:=Da f;have g:=Da g;simp at h;subst h;have u:=ρ.ex _ q;rw[z5,ρ.adrS_none,z5,ρ.adrS_eq (.inl (oG _ _ _ _ _))];simp[Gr,run_underlying s,IK,IJ,Hg,asIntOf,u,c,f,g,z9 hE hi0,qo,fS];split<;>rfl
   cases h
  cases h
 cases h
omit hE in
theorem fv:∀(a:List ψ) (k:Nat) (cs:List ψ) (off:Nat),off+k+O a<=O cs->
  (a.zipIdx k).foldl (λ(cs:Array ψ) (p:ψ×Nat)=>cs.setIfInBounds (off+p.2) p.1) cs.toArray=(zu cs (off+k) a).toArray:=by
 intro a;induction a with
 |nil=>intro k cs off h;simp[zu]
 |cons v a ih=>
  intro k cs off h;simp only[DJ]at h;simp only[List.zipIdx_cons,Ig];have e:cs.toArray.setIfInBounds (off+k) v=(cs.set (off+k) v).toArray:=by simp
  rw[e,ih (k+1) _ off eP];congr 1;unfold zu;simp only[DJ];have c:(cs.set (off+k) v).take (off+(k+1))=cs.take (off+k)++[v]:=by
   rw[show off+(k+1)=off+k+1 from Z,Fb eP];rw[JN Cy];simp
  have f:(cs.set (off+k) v).drop (off+(k+1)+O a)=cs.drop (off+k+(O a+1)):=by grind [FA]
  rw[c,f];simp
omit hE in
def kK(ρ:Ren)(g f:Nat->Option (Nat×Nat))(s:∀i r,g i=ξ r->f i=ξ r):
  ∀(a:List (Nat×ψ)) (c r:List ψ),me c g a=ξ r->
   ai2 f (c.map (conc ρ)).toArray (a.map λp=>(p.1,conc ρ p.2))=ξ (r.map (conc ρ)).toArray:=by
 intro a;induction a with
 |nil=>intro c r h;simp[me]at h;subst h;simp[ai2]
 |cons p a ih=>
  intro c r h;have⟨i,v⟩:=p;unfold me at h;split at h
  .cases h
  rename_i off size hpl;split at h
  .cases h
  rename_i hc;have u:(conc ρ v).cells.size=O (zn v):=by rw[qE,yS];simp
  simp at hc;simp only[Gq,ai2,s _ _ hpl];rw[Cv (by simp[u];omega)];have q:=fv (zn (conc ρ v)) 0 (c.map (conc ρ)) off (by rw[yz];simp;omega);have l:(conc ρ v).cells.zipIdx.foldl (λcs (x:ψ×Nat)=>match x with|(c,j)=>cs.setIfInBounds (off+j) c) (c.map (conc ρ)).toArray=(zu (c.map (conc ρ)) (off+0) (zn (conc ρ v))).toArray:=by
   rw[<-q,<-JZ];simp[yS]
  rw[l];have m:zu (c.map (conc ρ)) (off+0) (zn (conc ρ v))=(zu c off (zn v)).map (conc ρ):=by
   unfold zu;rw[yz];simp[F2,H2]
  rw[m];exact ih _ _ h
omit hE in
def VB{g:α->Sem β}{k:α->β}(F:Array α)(h:∀f∈F,(g f).run P w=.ok (k f) w):(F.mapM g).run P w=.ok (F.map k) w:=by
 have⟨l⟩:=F;rw[IE];simp only[Sem.run_map];have:(l.mapM g).run P w=.ok (l.map k) w:=by
  induction l with
  |nil=>simp
  |cons a l ih=>
   simp only[Jy,D8];rw[h a eC];simp only[DG];rw[ih (λf c=>h f (by simp at c⊢;exact .inr c))];simp
 simp[this]
def VC{B:List (Nat×ψ)}(ρ:Ren)(h:O8 E t B=ξ v):
  (ae6 t (B.map λp=>(p.1,conc ρ p.2)).toArray).run P w=.ok (conc ρ v) w:=by
 unfold O8 at h;split at h
 .rename_i fs _ _ z hu hz;obtain⟨F,m,rfl⟩:=hE.struct hu;have u:=hE.fld _ _ hu;simp at h;obtain⟨l,q,rfl⟩:=h;have A:(F.mapM λf=>do pure (f.offset,<-sizeOf f.type):Sem (Array (Nat×Nat))).run P w=.ok (F.map λf=>(f.offset,((E.inf f.type).getD (0,0,undef)).1)) w:=by
   apply VB;intro f a;have⟨⟨sz,b,z'⟩,c⟩:=u (f.type,f.offset) (by simp;exact⟨f,a,ω,ω⟩);simp[z9 hE c,c]
  have a:=kK ρ _ (λi=>(F.map λf=>(f.offset,((E.inf f.type).getD (0,0,undef)).1))[i]?) (by
   intro i r c;split at c
   .rename_i f hfi;split at c
    .rename_i sz _ _ hsz;simp at c;subst c;simp at hfi;obtain⟨C,s,rfl⟩:=hfi;simp[s,hsz]
    cases c
   .cases c) _ _ _ q
  have g:(zn z).map (conc ρ)=zn z:=by rw[<-yz,yA (hE.inf _ _ _ _ hz).2]
  rw[g,yS]at a;simp at a;simp[ae6,ry hE hz,run_underlying m];simp at A;rw[A];simp[a]
 .rename_i e _ _ z hu hz;have m:=hE.array hu;split at h
  .rename_i sz _ _ hsz;simp at h;obtain⟨l,q,rfl⟩:=h;have a:=kK ρ _ (λi=>ξ (i*sz,sz)) (λ_ _ h=>h) _ _ _ q;have g:(zn z).map (conc ρ)=zn z:=by rw[<-yz,yA (hE.inf _ _ _ _ hz).2]
   rw[g,yS]at a;simp at a;simp[ae6,ry hE hz,run_underlying m,z9 hE hsz,a]
  cases h
 cases h
omit hE in
def VD{ts:Array TypeId}(ρ:Ren)(h:minE args=ξ v):(al9 ts ty (args.map (conc ρ)).toArray).run P w=.ok (conc ρ v) w:=by
 unfold minE at h;split at h
 .simp at h;subst h;simp[al9,Builtin.min2]
 cases h
omit hE in
def VE{ts:Array TypeId}(ρ:Ren)(h:maxE args=ξ v):(am0 ts ty (args.map (conc ρ)).toArray).run P w=.ok (conc ρ v) w:=by unfold maxE at h;split at h;simp at h;subst h;simp[am0,Builtin.max2];cases h
theorem rD{g q:Operand->ψ}(ρ:Ren)(A:∀x,q x=conc ρ (g x))(h:yy E o.op g=ξ v):
  (execOp q o).run P w=.ok (.value (conc ρ v)) w:=by
 have u:q=λx=>conc ρ (g x):=funext A;subst u;unfold yy at h;unfold execOp;split at h<;>rename_i ho<;>simp only[ho]
 .simp at h;subst h;simp
 .simp at h;subst h;simp
 .unfold Qz at h;split at h<;>simp at h<;>subst h<;>simp[*,asBool]
 .have:=VC hE w ρ h;simp[LH]at this;simp only[D8];rename_i t l;have e:ad2 (λx=>match x with|(i,x)=>(i,conc ρ (g x))) l=(ab2 ((λp=>(p.fst,conc ρ p.snd)) ∘ λp=>(p.fst,g p.snd)) l.toList).toArray:=by
   obtain⟨l⟩:=l;simp
  rw[e,this];simp
 .unfold QA at h;split at h
  .rename_i hx;simp at h;subst h;simp[hx]
  cases h
 .rename_i op t x y yt;have:=Vr hE w (x:=x) (y:=y) ρ h;simp only[D8]at this⊢;rw[this];simp
 .have:=Vs (P:=P) w ρ h;simp[this]
 .have:=Vt hE w ρ h;simp[this]
 .simp at h;subst h;rename_i f a b;obtain⟨a⟩:=a;obtain⟨b⟩:=b;simp[Instr.makeFunc,Ren.fn]
 .rename_i t x lo hi;have:=Vz hE w ρ h;cases lo<;>cases hi<;>simp at this<;>simp[this]
 .have:=VA hE w ρ h;simp[this]
 .have:=kM hE w ρ h;simp[this]
 .have:=Vu hE w ρ h;simp[this]
 .have:=kE hE w ρ h;simp[this]
 .have:=Vv hE w ρ h;simp[this]
 .have:=eG (P:=P) w ρ h;simp[this]
 .rename_i c;split at h
  .rename_i b hb;obtain⟨s,args,m⟩:=c;simp at hb;subst hb;unfold aH at h;obtain⟨args⟩:=args;obtain⟨m⟩:=m;split at h
   .unfold QC at h;split at h
    .rename_i x t hx ht;simp at hx ht;subst ht;obtain⟨a,rfl,rfl⟩:=hx;have:=Vw hE w (ty:=o.type) ρ h;simp[resolve,invoke,builtin,this]
    cases h
   .have:=VD (P:=P) w (ts:=⟨m⟩) (ty:=o.type) ρ h;simp at this;simp[resolve,invoke,builtin];have e:ab2 (λx=>conc ρ (g x)) args=ab2 (conc ρ ∘ g) args:=rfl;rw[e,this];simp
   .have:=VE (P:=P) w (ts:=⟨m⟩) (ty:=o.type) ρ h;simp at this;simp[resolve,invoke,builtin];have e:ab2 (λx=>conc ρ (g x)) args=ab2 (conc ρ ∘ g) args:=rfl;rw[e,this];simp
   cases h
  cases h
 cases h
end
end
section
variable{ρ':Ren}
structure TR (ρ:Ren)(t:Tr ψ)(nt:Nat)(tm:Array ψ):Prop where
 size:tm.size=nt
 at_:∀i,i<nt->tm[i]?=ξ (conc ρ (nth t i))
 past:∀i,nt<=i->nth t i=undef
def TR.getD{ρ:Ren}{t:Tr ψ}(h:TR ρ t nt tm)(i:Nat):tm.getD i undef=conc ρ (nth t i):=by
 by_cases hi:i<nt;have:=h.at_ i hi;simp[this];rw[h.past i Z];have:tm.size<=i:=by rw[h.size];omega
 simp[FU this]
def TR.agr{ρ:Ren}{t:Tr ψ}(h:TR ρ t nt tm)(d:∀i,Nb m (nth t i))(a:Kv m ρ ρ'):TR ρ' t nt tm:=
 ⟨h.size,λi c=>by rw[h.at_ i c,d i ρ ρ' a],h.past⟩
structure Rel where
 E:Env
 P:Program
 ok:Code->Prop
def pk(X:Rel)(ρ:Ren)(b:Nat):Blk->Obj->Prop
 | .row c e,o=>∃(junk:List ψ) (fz:Nat×Nat),o=.cells (c.map (conc ρ)++junk).toArray e fz/\
   (∀off,off<O c+O junk->¬(fz.1<=off/\off<fz.2))/\(gro b=χ->junk=[])/\(∀sz bt z,X.E.inf e=ξ (sz,bt,z)->O junk=ρ.x b*sz)
 | .loop r p t nt ps assign body d,o=>∃(fn:FuncId) (tm:Array ψ),o=.loop {state:=if r then .ready else(if p.isNone then .busy else .done),pending:=p,fn:=fn,tmps:=tm,params:=ps.toArray,assign:=assign,body:=body,defers:=ρ.b d}/\
   TR ρ t nt tm/\X.ok assign/\X.ok body
 | .dfr,o=>o=.deferred (ξ [])
 | .ro c,o=>∃(e:TypeId) (fz:Nat×Nat),o=.cells (c.map (conc ρ)).toArray e fz
def Me(m:Nat):Blk->Prop
 | .row c _=>∀v∈c,Nb m v
 | .loop _ _ t _ _ _ _ d=>(∀i,Nb m (nth t i))/\d<m
 | .dfr=>True
 | .ro c=>∀v∈c,Nb m v
def Me.mono{x:Blk}(h:Me m x)(hm:m<=m'):Me m' x:=by
 cases x with
 |row c e=>exact λv a=>(h v a).mono hm
 |loop=>exact⟨λi=>(h.1 i).mono hm,CS h.2 hm⟩
 |dfr=>trivial
 |ro c=>exact λv a=>(h v a).mono hm
def pk.agr{X:Rel}{ρ:Ren}{x:Blk}{o:Obj}(h:pk X ρ b x o)(g:Me m x)(hb:b<m)(f:Kv m ρ ρ'):pk X ρ' b x o:=by
 cases x with
 |row c e=>
  obtain⟨s,j,rfl,l,q,A⟩:=h;refine⟨s,j,?_,l,q,λC u z B=>?_⟩;rw[Nb.map g f];rw[(f b hb).2];exact A C u z B
 |loop r p t nt ps a bd d=>
  obtain⟨y,tm,rfl,l,q⟩:=h;exact⟨y,tm,by rw[(f d g.2).1],l.agr g.1 f,q⟩
 |dfr=>exact h
 |ro c=>
  obtain⟨e,j,rfl⟩:=h;exact⟨e,j,by rw[Nb.map g f]⟩
structure Sim (X:Rel)(ρ:Ren)(h:Hp)(w:World):Prop where
 blk:∀b x,h.at b=ξ x->∃o,w.heap[ρ.b b]?=ξ o/\pk X ρ b x o
 inj:∀b b',(h.at b).isSome->(h.at b').isSome->ρ.b b=ρ.b b'->b=b'
def Kq(m:Nat)(h:Hp):Prop:=∀b x,h.at b=ξ x->b<m/\Me m x
structure Post (X:Rel)(ρ:Ren)(n:Nat)(h:Hp)(w:World)(W:List Nat)(ρ':Ren)(v:ψ)(h':Hp)(n':Nat)(w':World):Prop where
 agr:Kv (3*n) ρ ρ'
 le:n<=n'
 sim:Sim X ρ' h' w'
 nb:Kq (3*n') h'
 val:Nb (3*n') v
 wlt:∀b∈W,b<3*n
 wmem:∀b∈W,(h.at b).isSome
 fr:∀k,k<w.heap.size->(∀b∈W,ρ.b b≠k)->w'.heap[k]?=w.heap[k]?
 size:w.heap.size<=w'.heap.size
 os:w'.os=w.os
 tape:w'.tape=w.tape
 out:w'.output=w.output
 new:∀b,3*n<=b->(h'.at b).isSome->(w.heap.size<=ρ'.b b\/∃c∈W,ρ'.b b=ρ.b c)
 old:∀b,b<3*n->b∉W->h'.at b=h.at b
def Post.refl{X:Rel}{ρ:Ren}{n:Nat}{h:Hp}{w:World}(f:Sim X ρ h w)(c:Kq (3*n) h)(hv:Nb (3*n) v):Post X ρ n h w [] ρ v h n w:=by refine⟨Kv.refl _ _,Cy,f,c,hv,λ_ a=>?_,λ_ a=>?_,λ_ _ _=>rfl,Cy,ω,ω,ω,λb a d=>?_,λ_ _ _=>rfl⟩;cases a;cases a;have⟨x,g⟩:=Do.1 d;have:=(c b x g).1;omega
theorem yN:∀{W w:List Nat},b∈addW n0 W w↔b∈w\/(b∈W/\b<3*n0):=by
 intro W;induction W with
 |nil=>intro w;simp[addW]
 |cons c W ih=>
  intro w;unfold addW;split;rename_i hc;have a:=Da hc;rw[ih];simp;constructor;rintro(h|h);exact .inl h;exact .inr ⟨.inr h.1,h.2⟩;rintro(h|⟨rfl|h,h'⟩);exact .inl h;omega;exact .inr ⟨h,h'⟩;rename_i hc;have a:c<3*n0:=by grind [F3,CP]
  rw[ih];simp;constructor;rintro((rfl|h)|h);exact .inr ⟨.inl ω,a⟩;exact .inl h;exact .inr ⟨.inr h.1,h.2⟩;rintro(h|⟨rfl|h,h'⟩);exact .inl (.inr h);exact .inl (.inl ω);exact .inr ⟨h,h'⟩
def Post.trans{X:Rel}{B ρ:Ren}{n:Nat}{C h h':Hp}{w:World}{o:List Nat}
  (a:Post X B n0 C w0 o ρ v0 h n w)(b:Post X ρ n h w W ρ' v h' n' w'):Post X B n0 C w0 (addW n0 W o) ρ' v h' n' w':=by have H:=a.le;refine⟨a.agr.trans b.agr Z,CU H b.le,b.sim,b.nb,b.val,λc f=>?_,λc f=>?_,λk F l=>?_,CU a.size b.size,b.os.trans a.os,b.tape.trans a.tape,b.out.trans a.out,λc f D=>?_,λc f l=>?_⟩;obtain f|⟨_,f⟩:=yN.1 f;exact a.wlt c f;exact f;obtain f|⟨f,I⟩:=yN.1 f;exact a.wmem c f;by_cases h0c:c∈o;exact a.wmem c h0c;rw[<-a.old c I h0c];exact b.wmem c f;have G:w'.heap[k]?=w.heap[k]?:=(by refine b.fr k (CS F a.size) λc f e=>?_;by_cases hcn:c<3*n0;refine l c (yN.2 (.inr ⟨f,hcn⟩)) ?_;rw[<-(a.agr c hcn).1];exact e;obtain g|⟨u,g,p⟩:=a.new c Z (b.wmem c f);omega;exact l u (yN.2 (.inl g)) (by rw[<-p];exact e));rw[G];exact a.fr k F λc f=>l c (yN.2 (.inl f));have s:∀d,3*n0<=d->(h.at d).isSome->(w0.heap.size<=ρ.b d\/∃c∈addW n0 W o,ρ.b d=B.b c):=λd q A=>(by obtain g|⟨u,g,p⟩:=a.new d q A;exact .inl g;exact .inr ⟨u,yN.2 (.inl g),p⟩);by_cases hcn:c<3*n;have A:(h.at c).isSome:=(by by_cases j:c∈W;exact b.wmem c j;rw[<-b.old c hcn j];exact D);rw[(b.agr c hcn).1];exact s c f A;obtain g|⟨d,g,p⟩:=b.new c Z D;exact .inl (CU a.size g);rw[p];by_cases q:d<3*n0;exact .inr ⟨d,yN.2 (.inr ⟨g,q⟩),(a.agr d q).1⟩;exact s d Z (b.wmem d g);have j:c∉o:=λh=>l (yN.2 (.inl h));have y:c∉W:=λh=>l (yN.2 (.inr ⟨h,f⟩));rw[b.old c Z y,a.old c f j]
def qc(P:Program)(w:World)(a:Addr):∀(l:List ψ) (i:Nat) (acc:Array ψ),(∀j u,l[j]?=ξ u->w.cell? (a.add (i+j))=ξ u)->
  (loadCellsFrom a i (O l) acc).run P w=.ok (acc++l.toArray) w:=by
 intro l;induction l with
 |nil=>intro i acc _;simp[loadCellsFrom]
 |cons v l ih=>
  intro i acc h;have c:w.cell? (a.add i)=ξ v:=h 0 v rfl;simp only[DJ,loadCellsFrom,D8,run_load,c,DG];rw[ih (i+1) (acc.push v) (λj u d=>by rw[show i+1+j=i+(j+1)from Z];exact h (j+1) u d)];simp
def rz(P:Program)(w:World)(a:Addr)(l:List ψ)(n:Nat)(c:n=O l)(h:∀j u,l[j]?=ξ u->w.cell? (a.add j)=ξ u):
  (loadCells a n).run P w=.ok l.toArray w:=by subst c;unfold loadCells;rw[qc P w a l 0 #[] (λj u d=>by rw[C9];exact h j u d)];simp
section
variable{X:Rel}{ρ:Ren}{h:Hp}{w:World}
def VG(p:Sim X ρ h w){c:List ψ}{x:Blk}(hb:h.at b=ξ x)(hx:x.cells=ξ c){u:ψ}(g:c[i]?=ξ u):
  w.cell? ⟨ρ.b b,i,θ⟩=ξ (conc ρ u):=by
 have⟨o,d,f⟩:=p.blk b _ hb;have a:i<O c:=(CK.1 g).1;have e:=(CK.1 g).2;cases x with
 |row c' j=>
  injection hx with hx;subst hx;obtain⟨q,l,rfl,_⟩:=f;simp[IL,d,List.getElem?_append,a,e]
 |ro c'=>
  injection hx with hx;subst hx;obtain⟨j,l,rfl⟩:=f;simp[IL,d,a,e]
 |loop=>cases hx
 |dfr=>cases hx
def pM(a:Addr)(h:a.spot=θ)(n:Nat):a.add n=⟨a.block,a.off+n,θ⟩:=by have⟨b,o,s⟩:=a;subst h;unfold FF;split;rename_i h;subst h;rfl;rfl
def xP{a:Addr}{n:Nat}(d:md h a n=ξ cs):
  ∃c x,h.at a.block=ξ x/\x.cells=ξ c/\a.spot=θ/\a.off+n<=O c/\cs=(c.drop a.off).take n:=by unfold md at d;split at d;rename_i x hb;split at d;rename_i c hx;split at d;rename_i hc;simp at hc d;exact⟨c,x,hb,hx,hc.2,hc.1,d.symm⟩;cases d;cases d;cases d
theorem sD(s:Sim X ρ h w){a:Addr}{n:Nat}(p:md h a n=ξ cs):
  (O cs)=n/\∀j u,(cs.map (conc ρ))[j]?=ξ u->w.cell? ((ρ.addr a).add j)=ξ u:=by
 obtain⟨c,x,l,y,d,q,rfl⟩:=xP p;refine⟨eP,λj u f=>?_⟩;rw[List.getElem?_map,En]at f;obtain⟨v,g,rfl⟩:=f;rw[pM (ρ.addr a) d];have o:j<n:=by grind
 rw[List.getElem?_take_of_lt o,List.getElem?_drop]at g;exact VG s l y g
def kq(p:Kq m h){a:Addr}{n:Nat}(l:md h a n=ξ cs):∀v∈cs,Nb m v:=by
 obtain⟨c,x,j,d,s,o,rfl⟩:=xP l;intro v q;have f:=(p _ _ j).2;have g:=List.mem_of_mem_drop (Dp q);cases x with
 |row c' e'=>injection d with d;subst d;exact f v g
 |ro c'=>injection d with d;subst d;exact f v g
 |loop=>cases d
 |dfr=>cases d
def Nb.agg{l:List ψ}(c:∀v∈l,Nb m v):Nb m (.agg l.toArray):=λρ ρ' a=>by
 simp[Nb.map c a]
def Nb.tuple{l:List ψ}(c:∀v∈l,Nb m v):Nb m (.tuple l.toArray):=λρ ρ' a=>by
 simp[Nb.map c a]
def oM(j:EnvOk X.E X.P)(s:Sim X ρ h w)(q:Kq m h){a:Addr}(f:oN X.E t h a=ξ v):
  (loadVar t (ρ.addr a)).run X.P w=.ok (conc ρ v) w/\Nb m v/\∃x,h.at a.block=ξ x:=by
 unfold oN at f;split at f;rename_i sz _ _ hg hi;simp at f;obtain⟨cs,d,rfl⟩:=f;have⟨g,o⟩:=sD s d;have⟨c,e,l,_⟩:=xP d;refine⟨?_,Nb.agg (kq q d),_,l⟩;have:=rz X.P w (ρ.addr a) (cs.map (conc ρ)) sz (by simp[g]) o;simp[loadVar,ti j hg,z9 j hi,this];rename_i hg;split at f;rename_i u d;simp at f;subst f;have⟨g,o⟩:=sD s d;have⟨c,e,l,_⟩:=xP d;refine⟨?_,kq q d u eC,_,l⟩;have p:=o 0 (conc ρ u) eC;have y:(ρ.addr a).add 0=ρ.addr a:=by simp[FF]
 rw[y]at p;simp[loadVar,ti j hg,p];cases f;cases f
end
structure Same (k:Nat)(w w':World):Prop where
 far:∀j,j≠k->w'.heap[j]?=w.heap[j]?
 size:w'.heap.size=w.heap.size
 os:w'.os=w.os
 tape:w'.tape=w.tape
 out:w'.output=w.output
theorem tQ(P:Program){fz:Nat×Nat}:∀(vs:List ψ) (i:Nat) (c:List ψ) (w:World),w.heap[k]?=ξ (.cells c.toArray e fz)->
  off+i+O vs<=O c->(∀p,p<O c->¬(fz.1<=p/\p<fz.2))->(∀v∈vs,v.oneCell'=φ)->
  ∃w',(storeCells ⟨k,off,θ⟩ vs i).run P w=.ok () w'/\w'.heap[k]?=ξ (.cells (zu c (off+i) vs).toArray e fz)/\Same k w w':=by
 intro vs;induction vs with
 |nil=>
  intro i c w d _ _ _;refine⟨w,by simp[storeCells],?_,λ_ _=>rfl,ω,ω,ω,ω⟩;simp[zu,d]
 |cons v vs ih=>
  intro i c w d q l f;simp only[DJ]at q;have o:(⟨k,off,θ⟩:Addr).add i=⟨k,off+i,θ⟩:=pM _ ω _;have g:∃u,w.cell? ⟨k,off+i,θ⟩=ξ u:=(by refine⟨c[off+i]'Z,?_⟩;simp[IL,d]);have⟨u,s⟩:=g;have y:w.frozen? ⟨k,off+i,θ⟩=χ:=(by have:=l (off+i) Z;simp[World.frozen?,d];omega);have C:(store (⟨k,off+i,θ⟩:Addr) v).run P w=.ok () (w.setCell ⟨k,off+i,θ⟩ v):=(by rw[run_store P w _ v _ (f v eC)];simp[s,y]);have B:(w.setCell ⟨k,off+i,θ⟩ v).heap[k]?=ξ (.cells (c.set (off+i) v).toArray e fz):=(by simp[JV,Jw,d]);have⟨w',F,G,a⟩:=ih (i+1) (c.set (off+i) v) (w.setCell ⟨k,off+i,θ⟩ v) B eP (by simpa using l) (λu s=>f u (by simp[s]));refine⟨w',?_,?_,λj A=>?_,?_,?_,?_,?_⟩;simp only[storeCells,D8,o,C,DG];exact F;rw[G];congr 3;unfold zu;simp only[DJ];have f:(c.set (off+i) v).take (off+(i+1))=c.take (off+i)++[v]:=(by rw[show off+(i+1)=off+i+1 from Z,Fb eP];rw[JN Cy];simp);have D:(c.set (off+i) v).drop (off+(i+1)+O vs)=c.drop (off+i+(O vs+1)):=by grind [FA]
  rw[f,D];simp;rw[a.far j A];simp[JV,Jw];intro h;exact Cu h.symm A;rw[a.size];simp[JV];rw[a.os];rfl;rw[a.tape];rfl;rw[a.out];rfl
def cM:∀{vs:List ψ},ones vs=φ->∀v∈vs,v.oneCell'=φ:=by
 intro vs;induction vs with
 |nil=>intro _ v a;cases a
 |cons u vs ih=>
  intro h v a;cases u<;>simp[ones]at h<;>(obtain rfl|a:=De.1 a)<;>first|rfl|exact ih h v a
def cN{ρ:Ren}(h:v.oneCell'=φ):(conc ρ v).oneCell'=φ:=by
 match v with
 | CH θ=>simpa using h
 | CH (ξ _)=>simp[E1]
 | Y θ _ _=>simpa using h
 | Y (ξ _) _ _=>simp[E1]
 | .func _ _ _=>simp[E1]
 | .agg _=>cases h
 | .tuple _=>cases h
 | U _=>simp[E1]
 | CC _ _=>simp[E1]
 | .float _ _=>simp[E1,conc]
 | .complex _ _ _=>simp[E1,conc]
 | CG _=>simp[E1]
 | .map _=>simp[E1,conc]
 | .chan _=>simp[E1,conc]
 | .nilFunc=>simp[E1,conc]
 | .nilIface=>simp[E1,conc]
 | .iface _ _=>simp[E1,conc]
theorem VH(f:ψ->ψ)(c vs junk:List ψ)(off:Nat)(h:off+O vs<=O c):
  zu (c.map f++junk) off (vs.map f)=(zu c off vs).map f++junk:=by grind [zu,F2,H2]
def VI(c vs:List ψ)(off:Nat)(h:off+O vs<=O c):O (zu c off vs)=O c:=by unfold zu;simp;omega
theorem mG{c:List ψ}(h:v∈zu c off vs):v∈c\/v∈vs:=by grind [zu]
section
variable{X:Rel}{ρ:Ren}{h h':Hp}{w:World}
def tW{a:Addr}(d:qN h a vs=ξ h'):
  ∃c e,h.at a.block=ξ (.row c e)/\a.spot=θ/\a.off+O vs<=O c/\ones vs=φ/\∀b,h'.at b=if b=a.block then ξ (.row (zu c a.off vs) e)else h.at b:=by unfold qN at d;split at d;rename_i c e hb;split at d;rename_i hc;simp at hc;rw[xZ]at d;have⟨j,f,g⟩:=Tr.set_some θ _ _ _ _ _ d;injection f with f;subst f;exact⟨c,e,hb,hc.2.1,hc.1,hc.2.2,g⟩;cases d;cases d
def rY(P:Program)(D:Sim X ρ h w)(C:Kq (3*n) h){a:Addr}(hv:∀v∈vs,Nb (3*n) v)(L:qN h a vs=ξ h'):
  ∃w',(storeCells (ρ.addr a) (vs.map (conc ρ))).run P w=.ok () w'/\∀v,Nb (3*n) v->Post X ρ n h w [a.block] ρ v h' n w':=by
 have⟨c,e,g,K,A,T,p⟩:=tW L;obtain⟨o,V,B,S,rfl,F,Z4,hx⟩:=D.blk _ _ g;have⟨w',Z3,hw,l⟩:=tQ P (off:=a.off) (vs.map (conc ρ)) 0 (c.map (conc ρ)++B) w V eP (by simpa using F)
  (λv hv=>by
   simp at hv;obtain⟨u,Z0,rfl⟩:=hv;exact cN (cM T u Z0))
 refine⟨w',?_,λv N=>?_⟩;have:ρ.addr a=⟨ρ.b a.block,a.off,θ⟩:=by unfold Ren.addr;rw[K]
 rw[this];exact Z3;have q:=(C _ _ g).1;refine⟨Kv.refl _ _,Cy,⟨λb x d=>?_,λb R j y s=>?_⟩,λb x d=>?_,N,?_,?_,λk hk G=>?_,by rw[l.size];exact Ej _,l.os,l.tape,l.out,λb H j=>?_,λb H G=>?_⟩;rw[p]at d;split at d;rename_i hba;subst hba;injection d with d;subst d;refine⟨_,hw,B,S,?_,?_,Z4,hx⟩;rw[DE,VH _ _ _ _ _ A];rw[VI _ _ _ A];exact F;rename_i hba;have⟨o',I,J⟩:=D.blk b x d;refine⟨o',?_,J⟩;rw[l.far _ (λs=>hba (D.inj b a.block (by rw[d];rfl) Av s))];exact I;apply D.inj b R _ _ s;rw[p]at j;split at j;rename_i hba;subst hba;rw[g];rfl;exact j;rw[p]at y;split at y;rename_i hba;subst hba;rw[g];rfl;exact y;rw[p]at d;split at d;rename_i hba;subst hba;injection d with d;subst d;refine⟨q,λv M=>?_⟩;obtain h|h:=mG M;exact(C _ _ g).2 v h;exact hv v h;exact C b x d;intro b f;simp at f;subst f;exact q;intro b f;simp at f;subst f;rw[g];rfl;rw[l.far];exact λe=>G a.block eC e.symm;rw[p]at j;split at j;rename_i hba;subst hba;omega;have⟨x,Z1⟩:=Do.1 j;have:=(C b x Z1).1;omega;rw[p,Cv (λs=>G (by simp[s]))]
def Ren.upd(ρ:Ren)(b k x:Nat)(hx:gro b=χ->x=0)(hb:b%3≠0):Ren where
 b c:=if c=b then k else ρ.b c
 x c:=if c=b then x else ρ.x c
 ex c hc:=by
  split
  .rename_i h;subst h;exact hx hc
  exact ρ.ex c hc
 gl g:=by
  rw[Cv Z];exact ρ.gl g
def Ren.upd_agr(ρ:Ren)(b k x:Nat)(hx:gro b=χ->x=0)(hb:b%3≠0)(hm:m<=b):Kv m ρ (ρ.upd b k x hx hb):=λc a=>by
 simp[Ren.upd,show ¬c=b from Z]
def pB(I:Sim X ρ h w)(A:Kq (3*n) h){x:Nat}{y:Blk}{o:Obj}(hx:gro b=χ->x=0)(q:b%3≠0)(hb:3*n<=b)(J:b<3*(n+1))
  (L:k=w.heap.size)(hh:w'.heap=w.heap.push o)(Z1:w'.os=w.os)(P:w'.tape=w.tape)(G:w'.output=w.output)
  (s:∀c,h'.at c=if c=b then ξ y else h.at c)(H:pk X (ρ.upd b k x hx q) b y o)(M:Me (3*n) y)(hv:Nb (3*(n+1)) v):
  Post X ρ n h w [] (ρ.upd b k x hx q) v h' (n+1) w':=by
 have p:=ρ.upd_agr b k x hx q hb;have u:∀c z,h.at c=ξ z->ρ.b c<w.heap.size:=λc z a=>(by have⟨R,B,_⟩:=I.blk c z a;exact(Dv.1 B).1);refine⟨p,Z,⟨λc z a=>?_,λc g l F D=>?_⟩,λc z a=>?_,hv,λ_ a=>Cu a CO,λ_ a=>Cu a CO,λj T _=>?_,?_,Z1,P,G,λc a l=>?_,λc a _=>?_⟩;rw[s]at a;split at a;rename_i hcb;subst hcb;injection a with a;subst a;refine⟨o,?_,H⟩;simp[Ren.upd,hh,L];rename_i hcb;have⟨R,B,S⟩:=I.blk c z a;have Z4:=u c z a;refine⟨R,?_,S.agr (A c z a).2 (A c z a).1 p⟩;simp only[Ren.upd,Cv hcb,hh];rw[JO,Cv Z];exact B;have f:∀d,(h'.at d).isSome->d≠b->(h.at d).isSome:=λd K N=>by rw[s,Cv N]at K;exact K
 by_cases h1:c=b;by_cases h2:g=b;rw[h1,h2];have⟨z,C⟩:=Do.1 (f g F h2);have:=u g z C;simp[Ren.upd,h1,h2]at D;omega;have⟨z,C⟩:=Do.1 (f c l h1);have:=u c z C;by_cases h2:g=b;simp[Ren.upd,h1,h2]at D;omega;simp[Ren.upd,h1,h2]at D;exact I.inj c g (f c l h1) (f g F h2) D;rw[s]at a;split at a;rename_i hcb;subst hcb;injection a with a;subst a;exact⟨J,M.mono Z⟩;exact⟨by have:=(A c z a).1;omega,(A c z a).2.mono Z⟩;rw[hh,JO,Cv Z];rw[hh];simp;rw[s]at l;split at l;rename_i hcb;left;simp[Ren.upd,hcb,L];have⟨z,C⟩:=Do.1 l;have:=(A c z C).1;omega;rw[s,Cv Z]
end
end
def QH(z:List ψ)(sz:Nat)(a:O z=sz)(n:Nat):((ae7 (n*sz)).map λi=>(z.toArray)[i%z.toArray.size]!)=(rep n z).toArray:=by
 induction n with
 |zero=>simp[rep]
 |succ n ih=>
  apply F7;have d:(ad2 (λi=>(z.toArray)[i%z.toArray.size]!) (ae7 ((n+1)*sz))).toList=(DO ((n+1)*sz)).map λi=>(z.toArray)[i%z.toArray.size]! :=by simp
  have e:(DO (n*sz)).map (λi=>(z.toArray)[i%z.toArray.size]!)=rep n z:=(by have:=congrArg Array.toList ih;simpa using this);rw[d,show(n+1)*sz=sz+n*sz from by rw[EI];omega,List.range_add,Eu];show _=z++rep n z;congr 1;apply List.ext_getElem;simp[a];intro i b c;simp at b;simp[a,Nat.mod_eq_of_lt b];rw[CD c];rfl;rw[<-e,List.map_map];apply D5;intro i _;simp[a]
def VJ(z:List ψ)(n:Nat):O (rep n z)=n*O z:=by
 induction n with
 |zero=>simp[rep]
 |succ n ih=>simp[rep,ih,EI];omega
def qg{z:List ψ}:∀{n:Nat},v∈rep n z->v∈z:=by
 intro n;induction n with
 |zero=>intro h;simp[rep]at h
 |succ n ih=>
  intro h;simp[rep]at h;obtain h|h:=h;exact h;exact ih h
def vW(h:closed z=φ)(ρ:Ren):∀v∈zn z,conc ρ v=v:=by
 have e:=yz ρ z;rw[yA h]at e;intro v a;have:(zn z).map (conc ρ)=(zn z).map id:=by rw[<-e];simp
 exact IM.1 this v a
theorem pn(a:Array α)(o:α)(f:α->α):(a.push o).modify a.size f=a.push (f o):=by grind
section
variable{X:Rel}{ρ:Ren}{h h':Hp}{w:World}
def rG(m:Mk)(n:Nat):m.name n%3≠0/\3*n<=m.name n/\m.name n<3*(n+1)/\gro (m.name n)=m.g:=by unfold Mk.name;split<;>rename_i hg<;>rw[hg]<;>refine⟨Z,Z,Z,?_⟩;unfold gro;rw[show(3*n+1)%3=1 from Z];rfl;exact B7
def pD(C:Sim X ρ h w)(B:Kq (3*n) h)(m:Mk)(G:m.g=χ)(hh:∀ρ',Kv (3*n) ρ ρ'->w'.heap=w.heap.push (.cells (m.c.map (conc ρ')).toArray m.e (0,0)))
  (a:w'.os=w.os/\w'.tape=w.tape/\w'.output=w.output)(A:∀v∈m.c,Nb (3*n) v)(i:∀c,h'.at c=if c=m.name n then ξ (.row m.c m.e)else h.at c):
  ∃ρ',conc ρ' (m.val n)=(match m.s with|none=>ε (w.heap.size)|some (l,c)=>Y (ξ ⟨w.heap.size,0,θ⟩) l c)/\Post X ρ n h w [] ρ' (m.val n) h' (n+1) w':=by have⟨a,u,f⟩:=a;have⟨b,p,q,F⟩:=rG m n;have j:gro (m.name n)=χ->(0:Nat)=0:=λ_=>rfl;have d:=ρ.upd_agr (m.name n) w.heap.size 0 j b p;refine⟨ρ.upd (m.name n) w.heap.size 0 j b,?_,pB C B j b p q ω (hh _ d) a u f i ⟨[],(0,0),eC,eC,λ_=>rfl,λH D z _=>by simp[Ren.upd]⟩ A ?_⟩;unfold Mk.val;split<;>rename_i hms<;>simp[Ren.addr,Ren.upd,hms];intro I J y;have:=y (m.name n) q;unfold Mk.val;split<;>simp[Ren.addr,this.1,this.2]
def QI(I:Sim X ρ h w)(H:Kq (3*n) h)(m:Mk)(B:m.g=φ){x:Nat}{junk:List ψ}{fz:Nat×Nat}(hh:∀ρ',Kv (3*n) ρ ρ'->w'.heap=w.heap.push (.cells (m.c.map (conc ρ')++junk).toArray m.e fz))
  (C:w'.os=w.os)(D:w'.tape=w.tape)(j:w'.output=w.output)(G:∀v∈m.c,Nb (3*n) v)(A:∀off,off<O m.c+O junk->¬(fz.1<=off/\off<fz.2))
  (hx:∀b d z,X.E.inf m.e=ξ (b,d,z)->O junk=x*b)(p:∀c,h'.at c=if c=m.name n then ξ (.row m.c m.e)else h.at c):
  ∃ρ',conc ρ' (m.val n)=(match m.s with|none=>ε (w.heap.size)|some (l,c)=>Y (ξ ⟨w.heap.size,0,θ⟩) l (c+x))/\Post X ρ n h w [] ρ' (m.val n) h' (n+1) w':=by
 have⟨f,q,u,y⟩:=rG m n;have a:gro (m.name n)=χ->x=0:=λh=>by rw[y,B]at h;cases h
 have i:=ρ.upd_agr (m.name n) w.heap.size x a f q;refine⟨ρ.upd (m.name n) w.heap.size x a f,?_,pB I H a f q u ω (hh _ i) C D j p ⟨junk,fz,ω,A,(λh=>Cu h (by rw[y,B];simp)),λb d z J=>by simp[Ren.upd];exact hx b d z J⟩ G ?_⟩;unfold Mk.val;split<;>rename_i hms<;>simp[Ren.addr,Ren.upd,hms];intro K L F;have:=F (m.name n) u;unfold Mk.val;split<;>simp[Ren.addr,this.1,this.2]
def VK(w:World)(bs:ByteArray)(e:TypeId):Nat:=am1 (.appendCap bs.size 0 e) (w.tape w.drawn (.appendCap bs.size 0 e))
def VL(ρ:Ren)(g:Operand->ψ)(l:Array (Nat×Operand)):ad2 (λx=>match x with|(i,x)=>(i,conc ρ (g x))) l=((LH g l).map λp=>(p.1,conc ρ p.2)).toArray:=by have⟨l⟩:=l;simp[LH]
def iS{g:Nat->Option (Nat×Nat)}:∀{a:List (Nat×ψ)} {c r:List ψ},me c g a=ξ r->∀v∈r,v∈c\/∃p∈a,v∈zn p.2:=by
 intro a;induction a with
 |nil=>intro c r h v e;simp[me]at h;subst h;exact .inl e
 |cons p a ih=>
  intro c r h v e;have⟨i,u⟩:=p;unfold me at h;split at h;cases h;split at h;cases h;obtain b|⟨q,f,b⟩:=ih h v e;obtain d|d:=mG b;exact .inl d;exact .inr ⟨(i,u),eC,d⟩;exact .inr ⟨q,by simp[f],b⟩
def Nb.cells(h:Nb m v):∀u∈zn v,Nb m u:=by intro u b ρ c a;have e:=congrArg zn (h ρ c a);rw[yz,yz]at e;exact IM.1 e u b
theorem QJ(hE:EnvOk X.E X.P)(hs:Sim X ρ h w)(hn:Kq (3*n) h){g:Operand->ψ}(hgn:∀x,Nb (3*n) (g x)){m:Mk}(hm:Kl X.E o.op g=ξ m)
  (hset:∀c,h'.at c=if c=m.name n then ξ (.row m.c m.e)else h.at c):
  ∃ρ' w',(execOp (λx=>conc ρ (g x)) o).run X.P w=.ok (.value (conc ρ' (m.val n))) w'/\Post X ρ n h w [] ρ' (m.val n) h' (n+1) w':=by
 unfold Kl at hm;unfold execOp;split at hm<;>rename_i ho<;>simp only[ho];split at hm;rename_i e _ _ _ z hz;simp at hm;subst hm;have hcl:=(hE.inf _ _ _ _ hz).2;have⟨ρ',hv,hp⟩:=pD (w':=w.alloc (.cells z.cells e)) hs hn ⟨zn z,e,χ,θ⟩ ω (λρ' _=>by
  rw[<-yz,yA hcl,yS];rfl) R3 (λv hv=>Nb.cells (Nb.closed hcl) v hv) hset
 refine⟨ρ',_,?_,hp⟩;rw[hv];simp[Instr.alloc,ry hE hz,newVar,newRow];cases hm;rename_i e x;simp at hm;subst hm;have⟨ρ',hv,hp⟩:=pD (w':=w.alloc (.cells (conc ρ (g x)).cells e)) hs hn ⟨zn (g x),e,χ,θ⟩ ω (λρ' ha=>by
  rw[Nb.map (λv hv=>Nb.cells (hgn x) v hv) ha,<-yz,yS];rfl) R3 (λv hv=>Nb.cells (hgn x) v hv) hset
 refine⟨ρ',_,?_,hp⟩;rw[hv];simp[Instr.box,newVar,newRow];rename_i t len l;unfold O9 at hm;split at hm;rename_i e hu;have hF:=hE.slice hu;split at hm;rename_i sz _ z hz;split at hm;rename_i hb;simp at hb;split at hm;rename_i cs hcs;simp at hm;subst hm;have hcl:=(hE.inf _ _ _ _ hz).2;have hfr:=kK ρ _ (λj=>ξ (j*sz,sz)) (λ_ _ h=>h) _ _ _ hcs;have hzc:(rep len (zn z)).map (conc ρ)=rep len (zn z):=by
  conv=>rhs;rw[<-HB (rep len (zn z))]
  exact D5 λv hv=>vW hcl ρ v (qg hv)
 rw[hzc]at hfr;have hnb:∀v∈cs,Nb (3*n) v:=λv hv=>(by obtain h1|⟨p,hp,h1⟩:=iS hcs v hv;exact Nb.cells (Nb.closed hcl) v (qg h1);simp[LH]at hp;obtain⟨a,b,_,rfl⟩:=hp;exact Nb.cells (hgn b) v h1);have⟨ρ',hv,hp⟩:=pD (w':=w.alloc (.cells (cs.map (conc ρ)).toArray e)) hs hn ⟨cs,e,χ,ξ (len,len)⟩ ω (λρ' ha=>by rw[Nb.map hnb ha];rfl) R3 hnb hset;refine⟨ρ',_,?_,hp⟩;rw[hv];have hl2:¬len*sz>2^24:=Z;have hzero:((ae7 (len*sz)).map λi=>((if len*sz=0 then #[]else z.cells):Array ψ)[i%((if len*sz=0 then #[]else z.cells):Array ψ).size]!)=(rep len (zn z)).toArray:=by
  by_cases h0:len*sz=0;simp only[h0,if_true];have:O (rep len (zn z))=0:=by rw[VJ,hb.2,h0]
  rw[List.eq_nil_of_length_eq_zero this];simp;simp only[h0,if_false];have:=QH (zn z) sz hb.2 len;rw[yS]at this⊢;simpa using this
 rw[VL];unfold Instr.buildSlice;simp only[D8,run_underlying hF,DG,z9 hE hz];rw[Cv hl2];simp only[D8,FV,DG,Sem.run_ite,ry hE hz];by_cases h0:len*sz=0;simp only[h0,if_true,DG]at hzero⊢;exact B1;simp only[h0,if_false,DG]at hzero⊢;exact B1;cases hm;cases hm;cases hm;cases hm;rename_i t l c;unfold tn at hm;split at hm;rename_i e k1 len k2 cap hu hl hc;have hF:=hE.slice hu;split at hm;rename_i sz bt z hz;split at hm;rename_i hb;simp at hb;simp at hm;subst hm;have hcl:=(hE.inf _ _ _ _ hz).2;have⟨⟨i,hi1,hi2,hi3,hi4⟩,_⟩:=hE.inf _ _ _ _ hz;have hnb:∀v∈rep cap (zn z),Nb (3*n) v:=λv hv=>Nb.cells (Nb.closed hcl) v (qg hv);have hzc:∀ρ':Ren,(rep cap (zn z)).map (conc ρ')=rep cap (zn z):=λρ'=>by
  conv=>rhs;rw[<-HB (rep cap (zn z))]
  exact D5 λv hv=>vW hcl ρ' v (qg hv)
 have⟨ρ',hv,hp⟩:=pD (w':=w.alloc (.cells (rep cap (zn z)).toArray e)) hs hn ⟨rep cap (zn z),e,χ,ξ (len,cap)⟩ ω (λρ' ha=>by rw[hzc];rfl) R3 hnb hset;refine⟨ρ',_,?_,hp⟩;rw[hv];have hr:=run_make (P:=X.P) w t e i z hF hi1 hi4 k1 k2 (len:Int) (cap:Int) Z Z (by
  rw[hi3];have:((bt*cap:Nat):Int)<=281474976710656:=by grind
  rwa [Int.natCast_mul]at this) Z
 have hzero:madeCells z.cells (cap*sz)=(rep cap (zn z)).toArray:=(by have:=QH (zn z) sz hb.2.2.2 cap;rw[yS]at this⊢;simpa [madeCells]using this);simp only[Int.toNat_natCast,hi2,hzero]at hr;simp only[hl,hc,ja,D8];have e1:(Int.ofNat len)=(len:Int):=rfl;have e2:(Int.ofNat cap)=(cap:Int):=rfl;rw[e1,e2,hr];simp;cases hm;cases hm;cases hm;rename_i t d x;unfold vI at hm;split at hm;rename_i bs _ e hx ht hd;have⟨D,hD⟩:=hE.some_ ht;have hF:=hE.slice hd;split at hm;rename_i he hi;have hu:=hE.int he;simp at hm;subst hm;let cp:=VK w bs e;have hcp:bs.size<=cp:=(by show bs.size<=bs.size+_;omega);let junk:List ψ:=CI (cp-bs.size) (CC .u8 0);let cs:List ψ:=bs.data.toList.map λb=>CC .u8 b.toNat;have hlen:O cs=bs.size:=by simp[cs]
 have hconc:∀ρ':Ren,cs.map (conc ρ')=cs:=λρ'=>by simp[cs]
 let w':World:={w with heap:=w.heap.push (.cells (cs++junk).toArray e (cp,cp+1)),drawn:=w.drawn+1};have⟨ρ',hv,hp⟩:=QI (w':=w') hs hn ⟨cs,e,φ,ξ (bs.size,bs.size)⟩ ω (x:=cp-bs.size) (junk:=junk) (fz:=(cp,cp+1)) (λρ' ha=>by
  show w.heap.push _=_;rw[hconc]) ω ω ω (λv hv=>by
  simp[cs]at hv;obtain⟨b,_,rfl⟩:=hv;exact Nb.int) (by
  intro off hoff;simp[hlen,junk]at hoff;simp;omega) (by
  intro sz bt z hz;rw[hi]at hz;injection hz with hz;injection hz with hz;simp[junk,<-hz]) hset
 refine⟨ρ',w',?_,hp⟩;rw[hv];simp only[hx,vn];have hconv:(convert t d (CG bs)).run X.P w=(J0 e bs).run X.P w:=(by simp[convert,run_underlying hD,run_underlying hF,run_underlying hu]);simp only[D8,hconv];have hcut:am1 (.appendCap bs.size 0 e) (w.tape w.drawn (.appendCap bs.size 0 e))=cp:=rfl;simp only[J0,D8,run_choose,ag1,Ew,if_false,DG,hcut,newRow,run_newObj,FV,markStringish,run_shape];have hsz:(ad2 (λb:UInt8=>CC .u8 (b.toNat:Int)) bs.data++Ge (cp-bs.size) (CC .u8 0))=(cs++junk).toArray:=(by apply F7;simp[cs,junk]);rw[hsz];have hshape:({w with heap:=w.heap.push (.cells (cs++junk).toArray e),drawn:=w.drawn+1}:World).shape? w.heap.size=ξ (e,cp):=(by simp[World.shape?,hlen,junk];omega);rw[hshape];simp only[DG,run_freeze,FV];have hfr:({w with heap:=w.heap.push (.cells (cs++junk).toArray e),drawn:=w.drawn+1}:World).freeze {block:=w.heap.size,off:=cp} 1=w':=(by simp only[World.freeze,w'];rw[Cv Z];congr 1;rw[pn];simp);rw[hfr];have:bs.size+(cp-bs.size)=cp:=Z;rw[this];cases hm;cases hm;cases hm
end
section
variable{new:List ψ}{ρ':Ren}
section
variable{X:Rel}{ρ:Ren}{h h':Hp}{w:World}
def iF{P:Program}{x:ψ}(d:lenOf? x=ξ m):(H4 (conc ρ x)).run P w=.ok m w:=by unfold lenOf? at d;split at d;rename_i a l c;simp at d;subst d;cases a<;>simp[H4];simp at d;subst d;simp[H4];cases d
def xQ(l:Sim X ρ h w)(j:Kq m h){x:ψ}(c:wB h size k x=ξ cs):
  (EW size k (conc ρ x)).run X.P w=.ok (cs.map (conc ρ)).toArray w/\(∀v∈cs,Nb m v):=by
 unfold wB at c;split at c;rename_i a _ _;split at c;rename_i h0;simp at c;subst c;refine⟨?_,λ_ h=>by cases h⟩;simp[EW,h0,loadCells,loadCellsFrom];have⟨g,d⟩:=sD l c;refine⟨?_,kq j c⟩;have⟨_,_,_,_,i,_,_⟩:=xP c;rw[z5,ρ.adrS_eq (.inl i)];simp only[EW];exact rz X.P w (ρ.addr a) (cs.map (conc ρ)) (k*size) (by simp[g]) d;simp at c;subst c;exact⟨by simp[EW],λ_ h=>by cases h⟩;rename_i s;simp at c;subst c;refine⟨?_,λv f=>?_⟩;simp only[vn,EW,FV];congr 1;apply F7;rw[Array.toList_map,ad1];have e:(conc ρ ∘ λb:UInt8=>CC aq6 (b.toNat:Int))=λb:UInt8=>CC aq6 (b.toNat:Int):=by funext b;simp
 simp[e];have f:=Dp f;simp at f;obtain⟨b,_,rfl⟩:=f;exact Nb.int;cases c
def Post.undel{g:Hp}(p:Post X ρ n g w W ρ' v h' n' w')(hb:(h.at b).isSome)(i:b<3*n)(j:∀c,g.at c=if c=b then θ else h.at c)(l:h'.at b=θ):
  Post X ρ n h w (b::W) ρ' v h' n' w':=by refine⟨p.agr,p.le,p.sim,p.nb,p.val,λc a=>?_,λc a=>?_,λk u f=>p.fr k u λc a=>f c A1,p.size,p.os,p.tape,p.out,λc a s=>?_,λc a f=>?_⟩;obtain rfl|a:=De.1 a;exact i;exact p.wlt c a;obtain rfl|a:=De.1 a;exact hb;have:=p.wmem c a;rw[j]at this;split at this;cases this;exact this;obtain g|⟨d,o,q⟩:=p.new c a s;exact .inl g;exact .inr ⟨d,by simp[o],q⟩;simp at f;rw[p.old c a f.2,j,Cv f.1]
def QK(n:Nat):gro (3*n+1)=φ:=by unfold gro;rw[show(3*n+1)%3=1 from Z];rfl
def VM(P:Program)(I:Sim X ρ h w)(y:Kq (3*n) h){g f need:Nat}{c:List ψ}(hb:h.at b=ξ (.row c e))(hi:X.E.inf e=ξ (size,bt,z))
  (a9:O c=f*size)(ac:g*size<=O c)(a7:O new=(need-g)*size)(ab:g<=need)(M:need<=f+ρ.x b)(a4:f<need)(i:ones new=φ)(Z3:∀v∈new,Nb (3*n) v)
  (L:∀d,h'.at d=if d=3*n+1 then ξ (.row (c.take (g*size)++new) e)else if d=b then θ else h.at d):
  ∃ρ' w',(storeCells ⟨ρ.b b,g*size,θ⟩ (new.map (conc ρ))).run P w=.ok () w'/\conc ρ' (Y (ξ ⟨3*n+1,0,θ⟩) need need)=Y (ξ ⟨ρ.b b,0,θ⟩) need (f+ρ.x b)/\
   Post X ρ n h w [b] ρ' (Y (ξ ⟨3*n+1,0,θ⟩) need need) h' (n+1) w':=by
 obtain⟨o,ho,J,fz,rfl,R,hj,hx⟩:=I.blk _ _ hb;have aa:=hx _ _ _ hi;have a6:g*size+(need-g)*size=need*size:=by rw[<-Dq];congr 1;omega
 have a3:(f+ρ.x b)*size=f*size+ρ.x b*size:=Dq _ _ _;have a5:need*size<=(f+ρ.x b)*size:=Nat.mul_le_mul_right _ M;have⟨w',hr,hw,D⟩:=tQ P (off:=g*size) (new.map (conc ρ)) 0 (c.map (conc ρ)++J) w ho eP (by simpa using R)
  (λv j=>by
   simp at j;obtain⟨u,hu,rfl⟩:=j;exact cN (cM i u hu))
 have Z4:=(y _ _ hb).1;have C:gro (3*n+1)=χ->f+ρ.x b-need=0:=λh=>by rw[QK]at h;cases h
 have A:(3*n+1)%3≠0:=Z;have s:=ρ.upd_agr (3*n+1) (ρ.b b) (f+ρ.x b-need) C A (m:=3*n) Z;refine⟨ρ.upd (3*n+1) (ρ.b b) (f+ρ.x b-need) C A,w',hr,?_,?_⟩;simp[Ren.addr,Ren.upd];omega;have H:∀v∈c.take (g*size)++new,Nb (3*n) v:=λv j=>(by obtain j|j:=DQ.1 j;exact(y _ _ hb).2 v (Dp j);exact Z3 v j);have p:∀d,(h'.at d).isSome->d≠3*n+1->d≠b/\(h.at d).isSome:=λd a B=>(by rw[L,Cv B]at a;split at a;cases a;exact⟨gY,a⟩);refine⟨s,Z,⟨λd x a=>?_,λd G S T l=>?_⟩,λd x a=>?_,?_,?_,?_,λk hk K=>?_,by rw[D.size];exact Ej _,D.os,D.tape,D.out,λd a hi=>?_,λd a K=>?_⟩;rw[L]at a;split at a;rename_i hdn;subst hdn;injection a with a;subst a;refine⟨_,?_,(c.map (conc ρ)++J).drop (need*size),fz,ω,?_,λh=>?_,λsz a8 z' F=>?_⟩;have e1:(ρ.upd (3*n+1) (ρ.b b) (f+ρ.x b-need) C A).b (3*n+1)=ρ.b b:=by simp[Ren.upd]
 rw[e1,hw,Nb.map H s];congr 3;unfold zu;rw[DE,Eu,List.append_assoc];congr 1;rw[List.take_append_of_le_length eP,F2];congr 1;congr 1;simp;omega;intro a2 V;apply R;simp at V;omega;rw[QK]at h;cases h;rw[hi]at F;injection F with F;injection F with F;subst F;simp[Ren.upd,Nat.sub_mul];omega;rename_i hdn;split at a;cases a;rename_i hdb;have⟨o',Z0,a0⟩:=I.blk d x a;refine⟨o',?_,a0.agr (y d x a).2 (y d x a).1 s⟩;have:(ρ.upd (3*n+1) (ρ.b b) (f+ρ.x b-need) C A).b d=ρ.b d:=by simp[Ren.upd,hdn]
 rw[this,D.far _ (λl=>hdb (I.inj d b (by rw[a];rfl) (by rw[hb];rfl) l))];exact Z0;have N:∀q,(h'.at q).isSome->q≠3*n+1->ρ.b q≠ρ.b b:=λq Z1 B e=>(p q Z1 B).1 (I.inj q b (p q Z1 B).2 (by rw[hb];rfl) e);by_cases i:d=3*n+1;by_cases h2:G=3*n+1;rw[i,h2];simp[Ren.upd,i,h2]at l;exact Cu l.symm (N G T h2);by_cases h2:G=3*n+1;simp[Ren.upd,i,h2]at l;exact Cu l (N d S i);simp[Ren.upd,i,h2]at l;exact I.inj d G (p d S i).2 (p G T h2).2 l;rw[L]at a;split at a;rename_i hdn;subst hdn;injection a with a;subst a;exact⟨Z,λv j=>(H v j).mono Z⟩;split at a;cases a;exact⟨by have:=(y d x a).1;omega,(y d x a).2.mono Z⟩;intro ρ1 ρ2 ha;have:=ha (3*n+1) Z;simp[Ren.addr,this.1,this.2];intro d a;simp at a;subst a;exact Z4;intro d a;simp at a;subst a;rw[hb];rfl;rw[D.far];exact λe=>K b eC e.symm;by_cases i:d=3*n+1;right;refine⟨b,eC,?_⟩;simp[Ren.upd,i];have⟨x,a1⟩:=Do.1 (p d hi i).2;have:=(y d x a1).1;omega;simp at K;rw[L,Cv Z,Cv K]
def oS(u:Sim X ρ h w)(q:Kq (3*n) h){need a drawn:Nat}(hi:X.E.inf e=ξ (size,bt,z))(i:O (zn z)=size)(A:need<=a)
  (f:∀v∈cs,Nb (3*n) v)(p:∀d,h'.at d=if d=3*n+1 then ξ (.row cs e)else h.at d):
  ∃ρ',conc ρ' (Y (ξ ⟨3*n+1,0,θ⟩) need need)=Y (ξ ⟨w.heap.size,0,θ⟩) need a/\
   Post X ρ n h w [] ρ' (Y (ξ ⟨3*n+1,0,θ⟩) need need) h' (n+1) {w with heap:=w.heap.push (.cells ((cs.map (conc ρ)).toArray++Gj z.cells (a-need)) e),drawn:=drawn}:=by
 have j:(Gj z.cells (a-need)).toList.length=(a-need)*size:=by
  rw[yS]at i;have:z.cells.size=size:=by simpa using i
  simp[Gj,this]
 have⟨ρ',g,s⟩:=QI (w':={w with heap:=w.heap.push (.cells ((cs.map (conc ρ)).toArray++Gj z.cells (a-need)) e),drawn:=drawn}) u q ⟨cs,e,φ,ξ (need,need)⟩ rfl
  (x:=a-need) (junk:=(Gj z.cells (a-need)).toList) (fz:=(0,0)) (λρ' o=>by
   show w.heap.push _=_;rw[Nb.map f o];congr 2;apply F7;simp) ω ω ω f (by intro B _;simp) (λC y z' c=>by
    rw[hi]at c;injection c with c
    injection c with c
    rw[j,c]) p
 refine⟨ρ',?_,s⟩;have l:need+(a-need)=a:=Z;simp only[Mk.val,Mk.name]at g;rw[g,l]
theorem rP{P:Program}{i:TypeInfo}{D:TypeDesc}(q:P.underlying sT=ξ (.slice e))(hi:P.info? e=ξ i)(o:P.underlying xT=ξ D)(s:∀k,D≠.int k)
  {c:Option Addr}{d f:Nat}{x:ψ}{new:Array ψ}(hm:(H4 x).run P w=.ok m w)(p:(EW i.size m x).run P w=.ok new w)(j:d+m<=f)
  (g:match c with|some a=>(storeCells (a.add (d*i.size)) new.toList).run P w=.ok () w'|none=>w'=w):
  (GV #[sT,xT] ty #[Y c d f,x]).run P w=.ok (Y c (d+m) f) w':=by
 have l:(match D with| .int _=>φ|_=>χ)=χ:=by simp_all
 cases c with
 |none=>
  simp at g;subst g;simp[GV,run_underlying q,run_underlying o,sizeOf,typeInfo,hi,l,hm,j,p]
 |some a=>
  simp at g;simp[GV,run_underlying q,run_underlying o,sizeOf,typeInfo,hi,l,hm,j,p,g]
theorem jg{P:Program}{i:TypeInfo}{D:TypeDesc}(y:P.underlying sT=ξ (.slice e))(hi:P.info? e=ξ i)(A:i.zero=ξ z)(p:P.underlying xT=ξ D)(B:∀k,D≠.int k)
  {d:Option Addr}{a c:Nat}{x:ψ}{f new:Array ψ}(hm:(H4 x).run P w=.ok m w)(u:c<a+m)(hb:(a+m)*i.bytes<=1099511627776)(C:1<=i.bytes)
  (l:(EW i.size a (Y d a c)).run P w.drew=.ok f w.drew)(q:(EW i.size m x).run P w.drew=.ok new w.drew):
  (GV #[sT,xT] ty #[Y d a c,x]).run P w=.ok (Y (ξ ⟨w.heap.size,0,θ⟩) (a+m) (grownCap w (a+m) c e))
   {w with heap:=w.heap.push (.cells (f++new++Gj z.cells (grownCap w (a+m) c e-(a+m))) e),drawn:=w.drawn+1}:=by
 have o:(match D with| .int _=>φ|_=>χ)=χ:=by simp_all
 have hn:¬(a+m<=c):=Z;have s:=growslice_fits u (show(a+m)*i.bytes<=140737488355328 from Z);have g:¬(281474976710656<Builtin.nextslicecap (a+m) c*i.bytes):=Z;have j:¬i.bytes=0:=Z;simp[GV,run_underlying y,run_underlying p,sizeOf,typeInfo,zeroValue,hi,A,o,hm,hn,g,j,ag1,newRow,grownCap];rw[l];simp[q];rfl
theorem VN(hE:EnvOk X.E X.P)(C:Sim X ρ h w)(hn:Kq (3*n) h){s x:ψ}(ah:Nb (3*n) s)(ay:∃d,X.E.und xT=ξ d/\∀k,d≠.int k)
  (f:qI X.E h n sT s x=ξ (.val v h' n' W)):
  ∃ρ' w',(GV #[sT,xT] ty #[conc ρ s,conc ρ x]).run X.P w=.ok (conc ρ' v) w'/\Post X ρ n h w W ρ' v h' n' w':=by
 have⟨d,hd,ae⟩:=ay;have⟨D,J,ad⟩:=hE.und _ _ hd;have b2:∀w:World,((do pure ((<-underlying xT) matches .int _):Sem Bool)).run X.P w=.ok χ w:=λw=>(by simp[run_underlying J];cases D<;>simp_all [TD.of];exact ae _ ad.symm);unfold qI at f;split at f;rename_i e hu;have Z1:=hE.slice hu;split at f;rename_i size bytes z base sLen sCap m y hm;have⟨⟨i,q,Z3,af,a5⟩,ap⟩:=hE.inf _ _ _ _ y;split at f;rename_i new hnew;have⟨L,a6⟩:=xQ C hn hnew;split at f;rename_i hb;simp at hb;have⟨al,⟨a2,b1⟩,am⟩:=hb;have j:∀k,D≠.int k:=λk hk=>ae k (by rw[<-ad,hk];rfl);have u:=iF (P:=X.P) (ρ:=ρ) (w:=w) hm;rw[<-Z3]at L;split at f;rename_i g;have g:=Da g;unfold tq at f;split at f;simp at f;obtain⟨rfl,rfl,rfl,rfl⟩:=f;refine⟨ρ,w,?_,Post.refl C hn ?_⟩;cases base with
 |none=>
  simp only[rN];exact rP Z1 q J j u L g rfl
 |some a=>
  rw[z5,z5,ρ.adrS_len a (F5 sLen m) g];exact rP Z1 q J j u L Z (by simp[storeCells])
 intro ρ1 ρ2 a1;have:=ah ρ1 ρ2 a1;cases base with
 |none=>simp
 |some a=>
  rw[z5,z5]at this⊢;rw[ρ1.adrS_len a (F5 sLen m) g,ρ2.adrS_len a (F5 sLen m) g];simpa using this
 rename_i a hne;split at f;rename_i h1 a0;simp at f;obtain⟨rfl,rfl,rfl,rfl⟩:=f;have⟨w',B,A⟩:=rY X.P C hn a6 a0;have an:(a.add (sLen*size)).block=a.block:=gm _ _;rw[an]at A;have K:∀ρ:Ren,ρ.adrS a sLen sCap=ρ.addr a:=λρ=>(by by_cases hc:sCap=0;have⟨_,_,_,ai,_⟩:=tW a0;have av:sLen=0:=Z;rw[av,Nat.zero_mul]at ai;exact ρ.adrS_eq (.inl (by simpa [FF]using ai));exact ρ.adrS_eq (.inr (.inr hc)));refine⟨ρ,w',?_,A _ ?_⟩;rw[z5,z5,ρ.adrS_len a (F5 sLen m) g,K];apply rP Z1 q J j u L Z;show Sem.run _ (storeCells ((ρ.addr a).add (sLen*i.size)) _) w=_;rw[Z3,<-QG];simpa using B;intro ρ1 ρ2 a1;have:=ah ρ1 ρ2 a1;rw[z5,z5,K,K]at this;rw[z5,z5,ρ1.adrS_len a (F5 sLen m) g,ρ2.adrS_len a (F5 sLen m) g,K,K];simpa using this;cases f;cases f;rename_i hnle;have a4:sCap<sLen+m:=by grind [F3,CP]
 split at f;rename_i old hold;rw[xZ]at f;have ag:Sim X ρ h w.drew:=⟨C.blk,C.inj⟩;have⟨F,au⟩:=xQ ag hn hold;have⟨H,_⟩:=xQ ag hn hnew;rw[<-Z3]at F H;have a3:∀v∈old++new,Nb (3*n) v:=λv hv=>(by obtain hv|hv:=DQ.1 hv;exact au v hv;exact a6 v hv);have o:(old.map (conc ρ)).toArray++(new.map (conc ρ)).toArray=((old++new).map (conc ρ)).toArray:=by simp
 have R:(sLen+m)*i.bytes<=1099511627776:=by rw[af];exact al
 have S:1<=i.bytes:=by rw[af];exact am
 unfold MN at f;split at f;have⟨t',N,T⟩:=Tr.set_some θ _ _ _ _ _ f;simp at N;obtain⟨rfl,rfl,rfl,rfl⟩:=N;have B:=jg (ty:=ty) Z1 q a5 J j u a4 R S (by simpa using F) H;rw[o]at B;have⟨ρ',hv,A⟩:=oS (drawn:=w.drawn+1) C hn y a2 (grownCap_ge w (sLen+m) sCap e) a3 T;refine⟨ρ',_,?_,A⟩;rw[hv,rN,B];rename_i a;split at f;rename_i hgr;split at f;rename_i hchk;simp at hchk;have⟨a7,Z0,G,ac,ap⟩:=hchk;have⟨t1,ax,p⟩:=Tr.set_some θ _ _ _ _ _ f;have⟨t',N,T⟩:=Tr.set_some θ _ _ _ _ _ ax;simp at N;obtain⟨rfl,rfl,rfl,rfl⟩:=N;have aa:ρ.adrS a sLen sCap=⟨ρ.b a.block,0,θ⟩:=by rw[ρ.adrS_eq (.inl Z0)];unfold Ren.addr;rw[a7,Z0]
 obtain⟨c,I,ao⟩:∃c,h.at a.block=ξ (.row c e)/\O c=sCap*size:=(by unfold N1 at G;split at G;rename_i c e' hc;simp at G;exact⟨c,by rw[hc,G.2],G.1⟩;cases G);have M:old=c.take (sLen*size)/\sLen*size<=O c:=(by simp only[wB]at hold;split at hold;rename_i h0;simp at hold;subst hold;rw[h0];simp;obtain⟨c',x',Z4,a9,b0,ab,rfl⟩:=xP hold;rw[I]at Z4;injection Z4 with Z4;subst Z4;injection a9 with a9;subst a9;rw[a7]at ab⊢;exact⟨eC,Z⟩);have az:O new=m*size:=by grind
 have a8:ones new=φ:=by
  have:∀(l k:List ψ),ones (l++k)=φ->ones k=φ:=by
   intro l k;induction l with
   |nil=>exact id
   |cons v l ih=>intro hh;cases v<;>simp[ones]at hh<;>exact ih hh
  exact this _ _ ac
 have aq:∀d,Hp.at t' d=if d=3*n+1 then ξ (.row (c.take (sLen*size)++new) e)else if d=a.block then θ else h.at d:=λd=>(by show Tr.get θ t' d=_;rw[T,p,M.1]);by_cases hfit:sLen+m<=sCap+ρ.x a.block;have⟨ρ',w',a0,hv,A⟩:=VM X.P C hn (need:=sLen+m) I y ao M.2 aD Z hfit a4 a8 a6 aq;refine⟨ρ',w',?_,A⟩;rw[hv,z5,aa];apply rP Z1 q J j u L hfit;show Sem.run _ (storeCells ((⟨ρ.b a.block,0,θ⟩:Addr).add (sLen*i.size)) _) w=_;rw[Z3,pM _ rfl];simpa using a0;simp only[z5]at F;have B:=jg (ty:=ty) Z1 q a5 J j u (show sCap+ρ.x a.block<sLen+m from Z) R S (by
  have:(EW i.size sLen (Y (ξ (ρ.adrS a sLen sCap)) sLen (sCap+ρ.x a.block))).run X.P w.drew=.ok (old.map (conc ρ)).toArray w.drew:=F;exact this) H
 rw[o]at B;have ak:=(hn _ _ I).1;have aw:Sim X ρ t1 w:=⟨λc x hc=>C.blk c x (by
  rw[show Hp.at t1 c=_ from p c]at hc;split at hc;cases hc;exact hc),λc c' y V he=>C.inj c c' (by
  rw[show Hp.at t1 c=_ from p c]at y;split at y;cases y;exact y) (by
  rw[show Hp.at t1 c'=_ from p c']at V;split at V;cases V;exact V) he⟩
 have ar:Kq (3*n) t1:=λc x hc=>hn c x (by
  rw[show Hp.at t1 c=_ from p c]at hc;split at hc;cases hc;exact hc)
 have⟨ρ',hv,A⟩:=oS (drawn:=w.drawn+1) aw ar y a2 (grownCap_ge w (sLen+m) (sCap+ρ.x a.block) e) a3 T;refine⟨ρ',_,?_,Post.undel A (by rw[I];rfl) ak p (by
  show Tr.get θ t' a.block=θ;rw[T,Cv Z,p,Cw rfl])⟩
 rw[hv,z5,B];cases f;rename_i hgr;have aj:=ρ.ex _ hgr;have⟨t',N,T⟩:=Tr.set_some θ _ _ _ _ _ f;simp at N;obtain⟨rfl,rfl,rfl,rfl⟩:=N;simp only[z5,aj,DE]at F;have B:=jg (ty:=ty) Z1 q a5 J j u a4 R S F H;rw[o]at B;have⟨ρ',hv,A⟩:=oS (drawn:=w.drawn+1) C hn y a2 (grownCap_ge w (sLen+m) sCap e) a3 T;refine⟨ρ',_,?_,A⟩;rw[hv,z5,aj,DE,B];cases f;cases f;cases f;cases f;cases f
end
end
structure EnvOk2 (E:Env)(P:Program):Prop extends EnvOk E P where
 ent:∀f fn,E.fn f=ξ fn->∀args w,(callFunc f args).run P w=.ok (.enter f args) w
 get:∀f fn,E.fn f=ξ fn->P.funcs[f]?=ξ fn
 ext:∀f args v,E.ext f args=ξ v->(∀x∈args,closed x=φ)/\closed v=φ/\∀w,(callFunc f args.toArray).run P w=.ok (.value v) w
 mixed:P.follows .mixedOrders=φ
def Nx(v:ψ)(x:Next):Prop:=x=.value v\/(x=.skip/\v=undef)
section
variable{X:Rel}{ρ:Ren}{h h':Hp}{w:World}
def VO(j:EnvOk X.E X.P)(f:Sim X ρ h w)(hn:Kq (3*n) h){p:TypeId}{d x:ψ}(hc:MO X.E h n p d x=ξ (.val v h' n' W)):
  ∃g,(Hr #[p,xT] ty #[conc ρ d,conc ρ x]).run X.P w=.ok (conc ρ v) g/\Post X ρ n h w W ρ v h' n' g:=by unfold MO at hc;split at hc;rename_i e hu;have q:=j.slice hu;split at hc;rename_i size _ _ base dLen c m hi hm;have i:=iF (P:=X.P) (ρ:=ρ) (w:=w) hm;split at hc;rename_i b0 _ _ hcs;have⟨b,_⟩:=xQ f hn hcs;simp at hc;obtain⟨rfl,rfl,rfl,rfl⟩:=hc;refine⟨w,?_,Post.refl f hn Nb.int⟩;simp at b;cases b0<;>simp[Hr,run_underlying q,i,z9 j hi,b,storeCells,goInt];rename_i cs a hne hcs;split at hc;rename_i h1 hst;simp at hc;obtain⟨rfl,rfl,rfl,rfl⟩:=hc;have⟨b,u⟩:=xQ f hn hcs;have⟨g,B,A⟩:=rY X.P f hn u hst;refine⟨g,?_,A _ Nb.int⟩;have⟨_,_,_,y,_⟩:=tW hst;have s:=ρ.adrS_eq (l:=dLen) (c:=c) (.inl y);simp[s,Hr,run_underlying q,i,z9 j hi,b,B,goInt];cases hc;cases hc;cases hc;cases hc
def VP:∀{a:List ψ} {l:List UInt8},pi a=ξ l->∃b:List Int,a=b.map (CC .u8)/\l=b.map λm=>Ec m.toNat:=by
 intro a;induction a with
 |nil=>intro l h;simp[pi]at h;subst h;exact⟨[],ω,ω⟩
 |cons v a ih=>
  intro l h;unfold pi at h;split at h;rename_i h0;cases h0;rename_i m r h0;injection h0 with h1 h2;subst h1 h2;split at h;rename_i l' hl;simp at h;subst h;obtain⟨b,rfl,rfl⟩:=ih hl;exact⟨m::b,ω,ω⟩;cases h;cases h
theorem VQ(f:EnvOk X.E X.P)(y:Sim X ρ h w)(s:Kq (3*n) h){d:TypeId}{x:ψ}(b:Nu X.E t d x h=ξ v):
  (convert t d (conc ρ x)).run X.P w=.ok (conc ρ v) w/\Nb (3*n) v:=by
 unfold Nu at b;split at b;rename_i a len c e htu hdu;have i:=f.slice htu;have j:=f.string hdu;split at b;rename_i cs heu hcs;have m:=f.int heu;split at b;rename_i l hl;simp at b;subst b;refine⟨?_,Nb.string⟩;obtain⟨g,rfl,rfl⟩:=VP hl;have⟨u,_⟩:=xQ y s hcs;cases a with
 |none=>
  have q:g=[]:=(by simp[wB]at hcs;exact hcs);subst q;rw[rN,run_convert_bytes_string w t d e _ _ _ i m j];simp[Conv.bytesToString];rfl
 |some a=>
  rw[z5,run_convert_bytes_string w t d e _ _ _ i m j];have p:(loadCells (ρ.adrS a len c) len).run X.P w=.ok (g.map (CC .u8)).toArray w:=(by simp[EW]at u;simp_all);rw[run_bytesToString w _ len _ g p,foldl_push_bytes];simp
 cases b;cases b;cases b
theorem QL(y:EnvOk2 X.E X.P)(B:Sim X ρ h w)(hn:Kq (3*n) h){g:Operand->ψ}(F:∀x,Nb (3*n) (g x))(i:effE X.E o.op g h n=ξ (.val v h' n' W)):
  ∃C p nx,(execOp (λx=>conc ρ (g x)) o).run X.P w=.ok nx p/\Nx (conc C v) nx/\Post X ρ n h w W C v h' n' p:=by
 unfold effE at i;unfold execOp;split at i<;>rename_i ho<;>simp only[ho];rename_i t a x;unfold mC at i;split at i;rename_i ad sz _ _ ha hi;split at i;rename_i hlen;split at i;rename_i h1 hst;simp at i;obtain⟨rfl,rfl,rfl,rfl⟩:=i;have⟨p,q,u⟩:=rY X.P B hn (λv hv=>Nb.cells (F x) v hv) hst;refine⟨ρ,p,.skip,?_,.inr ⟨ω,eC⟩,u _ Nb.undef⟩;have M:(conc ρ (g x)).cells.size=sz:=by grind [qE,yS,DC]
 rw[<-yz,yS]at q;simp[ha,Instr.storeAt,G4,storeVar,M,z9 y.toEnvOk hi,q];cases i;cases i;cases i;rename_i c;have⟨J,j,G⟩:=c;have⟨j⟩:=j;have⟨G⟩:=G;unfold qH at i;simp only at i;split at i;unfold appE at i;split at i;rename_i s x sT xT hsx;obtain⟨l,m,rfl,rfl,rfl⟩:∃l m,j=[l,m]/\g l=s/\g m=x:=by
  match j,hsx with
  |[a,b],h=>simp at h;exact⟨a,b,ω,h.1,h.2⟩
 have K:∃d,X.E.und xT=ξ d/\∀k,d≠.int k:=by
  split at i;cases i;cases i;rename_i h1 h2;cases hu:X.E.und xT with
  |none=>exact Cu hu h2
  |some d=>exact⟨d,ω,λk L=>h1 k (by rw[hu,L])⟩
 split at i;cases i;cases i;have⟨C,p,q,u⟩:=VN y.toEnvOk B hn (ty:=o.type) (F l) K i;refine⟨C,p,_,?_,.inl ω,u⟩;simp[resolve,invoke,builtin,q];cases i;unfold cpyE at i;split at i;rename_i s x sT rest hsx;obtain⟨l,m,rfl,rfl,rfl⟩:∃l m,j=[l,m]/\g l=s/\g m=x:=by
  match j,hsx with
  |[a,b],h=>simp at h;exact⟨a,b,ω,h.1,h.2⟩
 have⟨p,q,u⟩:=VO (xT:=0) (ty:=o.type) y.toEnvOk B hn i;refine⟨ρ,p,_,?_,.inl ω,u⟩;have e:(Hr ⟨sT::rest⟩ o.type #[conc ρ (g l),conc ρ (g m)]).run X.P w=(Hr #[sT,0] o.type #[conc ρ (g l),conc ρ (g m)]).run X.P w:=(by unfold Hr;simp);simp[resolve,invoke,builtin,e,q];cases i;rename_i f;unfold Nt at i;split at i;rename_i gf first cap hf
 split at i;rename_i v' hv;simp at i;obtain⟨rfl,rfl,rfl,rfl⟩:=i;have⟨N,D,I⟩:=y.ext _ _ _ hv;refine⟨ρ,w,.value v',?_,.inl (by rw[yA D]),Post.refl B hn (Nb.closed D)⟩;have H:(first.toList++(j.map g++cap.toList)).map (conc ρ)=first.toList++(j.map g++cap.toList):=by
  conv=>rhs;rw[<-HB (first.toList++(j.map g++cap.toList))]
  grind [yA,D5]
 have A:first.map (conc ρ)++(j.map λx=>conc ρ (g x)).toArray++cap.map (conc ρ)=(first.toList++(j.map g++cap.toList)).toArray:=(by rw[<-H];apply F7;simp);simp only[hf,Pa,resolve,HX,Ren.fn,D8,FV,DG,invoke,I0];rw[A];exact I w;cases i;cases i;cases i;cases i;cases i
end
section
variable{E:Env}
def fW(M:List Nat):List Deferred:=M.map λk=>{target:=.collected k,args:=#[]}
def KN(X:Rel)(nt n0:Nat)(ρ0:Ren)(h0:Hp)(w0:World)(s:St)(a:Act)(w:World):Prop:=
 ∃(ρ:Ren) (M:List Nat),TR ρ s.t nt a.tmps/\(∀i,Nb (3*s.n) (nth s.t i))/\Post X ρ0 n0 h0 w0 s.w ρ undef s.h s.n w/\
  a.defers=fW M/\M.Nodup/\∀k∈M,w.heap[k]?=ξ (.deferred (ξ []))/\w0.heap.size<=k/\∀b,(s.h.at b).isSome->ρ.b b≠k
def qD:Operand->Bool
 | .const v=>closed v
 |_=>φ
def yh(o:Oper):Bool:=o.op.operands.all qD&&(match o.op with| .defer _=>χ| .select _ _=>χ|_=>φ)
section
variable{X:Rel}{ρ:Ren}{h h':Hp}{w:World}
def eM{t:Tr ψ}{a:Act}(b:TR ρ t nt a.tmps)(hx:qD x=φ):a.eval x=conc ρ (ev t x):=by
 cases x with
 |tmp i=>simp only[Iw,ev];exact b.getD i
 |const v=>simp only[Iw,ev];rw[show closed v=φ from hx];exact(yA hx).symm
 |global g=>simp[Iw,ev,Ren.addr,ρ.gl]
 |func f=>simp[Iw,ev,Ren.fn]
def Nb.global(g:Nat):Nb m (ε (3*g)):=λρ a _=>by simp[Ren.addr,ρ.gl,a.gl]
def eJ{t:Tr ψ}(a:∀i,Nb m (nth t i))(x:Operand):Nb m (ev t x):=by
 cases x with
 |tmp i=>exact a i
 |const v=>
  simp only[ev];split;exact Nb.closed gY;exact Nb.undef
 |global g=>exact Nb.global g
 |func f=>intro ρ b _;simp[ev,Ren.fn]
def oZ{t:Tr ψ}{a:Act}(j:TR ρ t nt a.tmps)(c:yh o=φ):execOp a.eval o=execOp (λx=>conc ρ (ev t x)) o:=by unfold yh at c;simp at c;refine execOp_congr o (λcs b g=>?_) (λx p=>eM j ?_);rw[g]at c;simp at c;obtain⟨i,d,rfl⟩:=Jx.1 p;exact c.1 i d
def Post.wv{b:Ren}{a:Hp}{v':ψ}(p:Post X b n0 a w0 W ρ v h' n' w')(hv:Nb (3*n') v'):Post X b n0 a w0 W ρ v' h' n' w':=
 ⟨p.agr,p.le,p.sim,p.nb,hv,p.wlt,p.wmem,p.fr,p.size,p.os,p.tape,p.out,p.new,p.old⟩
def TR.put{t c:Tr ψ}(b:TR ρ t nt tm)(hi:i<nt)(d:∀j,Tr.get undef c j=if j=i then v else Tr.get undef t j):TR ρ c nt (tm.setIfInBounds i (conc ρ v)):=by refine⟨by simp[b.size],λj a=>?_,λj a=>?_⟩;show _=ξ (conc ρ (Tr.get undef c j));rw[d];by_cases hji:j=i;subst hji;simp[b.size,a];rw[Cv hji,Gv (Ne.symm hji)];exact b.at_ j a;show Tr.get undef c j=undef;rw[d,Cv Z];exact b.past j a
def tD{C:Ctx}{T:Ren}{F:Hp}{s:St}{d:Option Tmp}{k:St->Option β}{r:β}(q:done C s d v h' n' W k=ξ r):
  ∃s',k s'=ξ r/\∀(a:Act) (w:World) (ρ:Ren) (M:List Nat),TR ρ s.t C.nt a.tmps->(∀i,Nb (3*s.n) (nth s.t i))->Post X T C.n0 F w0 s.w ρ undef s.h s.n w->a.defers=fW M->M.Nodup->
   (∀k∈M,w.heap[k]?=ξ (.deferred (ξ []))/\w0.heap.size<=k/\∀b,(s.h.at b).isSome->ρ.b b≠k)->
   ∀(p:Ren) (w':World),Post X ρ s.n s.h w W p v h' n' w'->KN X C.nt C.n0 T F w0 s' (a.put d (conc p v)) w':=by
 unfold done at q;rw[rJ]at q;have R:∃y,(∀(p:Ren) (tm:Array ψ),TR p s.t C.nt tm->TR p y C.nt (match d with|some i=>tm.setIfInBounds i (conc p v)|none=>tm))/\(∀m,(∀i,Nb m (nth s.t i))->Nb m v->∀i,Nb m (nth y i))/\uP n' (λn=>k {t:=y,h:=h',n:=n,w:=addW C.n0 W s.w})=ξ r:=by
  unfold putK at q;cases d with
  |some i=>
   simp only at q;split at q;cases q;rename_i u;have hi:i<C.nt:=(by apply F3;intro K;rw[CP K]at u;cases u);have⟨y,P,J⟩:=Tr.set_some undef _ _ _ _ _ q;refine⟨y,λp tm B=>B.put hi J,λm hm hv j=>?_,P⟩;show Nb m (Tr.get undef y j);rw[J];split;exact hv;exact hm j
  |none=>exact⟨s.t,λ_ _ h=>h,λ_ h _=>h,q⟩
 have⟨y,Z4,V,G⟩:=R;rw[xm]at G;refine⟨_,G,λa w ρ M B N hp I Z1 Z3 p w' g=>⟨p,M,?_,?_,(hp.trans g).wv Nb.undef,?_,Z1,λk hk=>?_⟩⟩;have:=Z4 p a.tmps (B.agr N g.agr);cases d<;>exact this;exact V (3*n') (λi=>(N i).mono (by have:=g.le;omega)) g.val;cases d<;>exact I;have⟨S,m2,D⟩:=Z3 k hk;have L:k<w.heap.size:=(Dv.1 S).1;refine⟨?_,m2,λb u A=>?_⟩;rw[g.fr k L λb u=>D b (g.wmem b u)];exact S;by_cases hb3:b<3*s.n;have hs:(s.h.at b).isSome:=(by by_cases hbW:b∈W;exact g.wmem b hbW;rw[<-g.old b hb3 hbW];exact u);rw[(g.agr b hb3).1]at A;exact D b hs A;obtain H|⟨c,Z0,H⟩:=g.new b Z u;omega;rw[H]at A;exact D c (g.wmem c Z0) A
def Wd(ro:Option Nat):Fence:={Fx with round:=ro}
structure CalOk (X:Rel)(C:Cal):Prop where
 call:∀f args h n v h' n' W,C.call f args h n=ξ (v,h',n',W)->∀(k:Nat) (ρ:Ren) (w:World),Sim X ρ h w->Kq (3*n) h->(∀x∈args,Nb (3*n) x)->
  (callFunc f (args.map (conc ρ)).toArray).run X.P w=.ok (.enter f (args.map (conc ρ)).toArray) w/\
  CallsIn Fx k X.P f (args.map (conc ρ)).toArray w λe w'=>∃ρ',e=.returned (conc ρ' v)/\Post X ρ n h w W ρ' v h' n' w'
 yl:∀l args h n v h' n' W,C.yl l args h n=ξ (v,h',n',W)->∀(k:Nat) (ρ:Ren) (w:World),Sim X ρ h w->Kq (3*n) h->(∀x∈args,Nb (3*n) x)->
  ∃f tm assign body,(ae9 (ρ.b l) (args.map (conc ρ)).toArray).run X.P w=.ok (.round (ρ.b l) f tm assign body) w/\
   RoundIn Fx k X.P (ρ.b l) f tm assign body w λe w'=>∃ρ',e=.returned (conc ρ' v)/\Post X ρ n h w W ρ' v h' n' w'
def uj(b:yh o=φ){a:Act}{u:Option Nat}{s:Nat}{K:Act->World->Prop}{Q:Exit->Act->World->Prop}{g:Next}(q:(execOp a.eval o).run X.P w=.ok g w')(d:Nx v g)(j:K (a.put o.dst v) w'):
  o.wpIn (Wd u) s X.P a w K Q:=by refine⟨λ_ _=>trivial,?_⟩;rw[H5 _ _ _ (λc p=>by unfold yh at b;rw[p]at b;simp at b),q];obtain rfl|⟨rfl,rfl⟩:=d<;>exact j
def Nb.first{f:Fn}{a b:Array ψ}(h:Nb m (.func f a b)):(∀x∈a.toList,Nb m x)/\∀x∈b.toList,Nb m x:=by constructor;intro x d ρ g c;have:=h ρ g c;simp at this;exact this.2.1 x Aq;intro x d ρ g c;have:=h ρ g c;simp at this;exact this.2.2 x Aq
def Pb:R->Prop
 | .val _ _ _ _=>True
 |_=>False
def VR{h:Hp}{n need cells:Nat}{c:Option Addr}{r:R}(b:MN h n e cs need cells sz c=ξ r):Pb r:=by unfold MN at b;split at b;have⟨t,a,_⟩:=Tr.set_some θ _ _ _ _ _ b;injection a with a;subst a;trivial;split at b;split at b;have⟨t,a,_⟩:=Tr.set_some θ _ _ _ _ _ b;have⟨t,a,_⟩:=Tr.set_some θ _ _ _ _ _ a;injection a with a;subst a;trivial;cases b;have⟨t,a,_⟩:=Tr.set_some θ _ _ _ _ _ b;injection a with a;subst a;trivial
def QM{ts:List TypeId}{h:Hp}{n:Nat}{r:R}(a:appE E ts args h n=ξ r):Pb r:=by unfold appE at a;split at a;split at a;cases a;cases a;unfold qI at a;split at a;split at a;split at a;split at a;split at a;unfold tq at a;split at a;injection a with a;subst a;trivial;split at a;injection a with a;subst a;trivial;cases a;cases a;split at a;rw[xZ]at a;exact VR a;cases a;cases a;cases a;cases a;cases a;cases a
def QN{ts:List TypeId}{h:Hp}{n:Nat}{r:R}(a:cpyE E ts args h n=ξ r):Pb r:=by unfold cpyE at a;split at a;unfold MO at a;split at a;split at a;split at a;injection a with a;subst a;trivial;split at a;injection a with a;subst a;trivial;cases a;cases a;cases a;cases a;cases a
def bN{P:Program}{g:Operand->ψ}{u:Hp}{A:Nat}(b:effE E o.op g u A=ξ (.enter f args)):
  (∀w:World,(execOp (λx=>conc ρ (g x)) o).run P w=(callFunc f (args.map (conc ρ)).toArray).run P w)/\∀m,(∀x,Nb m (g x))->∀x∈args,Nb m x:=by
 unfold effE at b;split at b;rename_i t a x ho;unfold mC at b;split at b;split at b;split at b<;>cases b;cases b;cases b;rename_i c ho;have⟨q,p,B⟩:=c;have⟨p⟩:=p;unfold qH at b;simp only at b;split at b;exact(QM b).elim;exact(QN b).elim;rename_i fo;unfold Nt at b;split at b;rename_i gf first cap hf
 split at b;cases b;injection b with b;injection b with h1 h2;subst h1 h2;refine⟨λw=>?_,λm s x d=>?_⟩;unfold execOp;simp only[ho,hf,Pa,resolve,HX,Ren.fn,D8,FV,DG,invoke,I0];congr 2;apply F7;simp;have j:=(s fo);rw[hf]at j;simp only[DQ,DL]at d;obtain d|⟨y,_,rfl⟩|d:=d;exact j.first.1 x d
 exact s y;exact j.first.2 x d
 cases b;cases b;cases b;cases b
def iT{P:Program}{g:Operand->ψ}{A:Hp}{B:Nat}(d:effE E o.op g A B=ξ (.round l args)):
  (∀w:World,(execOp (λx=>conc ρ (g x)) o).run P w=(ae9 (ρ.b l) (args.map (conc ρ)).toArray).run P w)/\∀m,(∀x,Nb m (g x))->∀x∈args,Nb m x:=by
 unfold effE at d;split at d;rename_i t a x ho;unfold mC at d;split at d;split at d;split at d<;>cases d;cases d;cases d;rename_i c ho;have⟨s,p,C⟩:=c;have⟨p⟩:=p;unfold qH at d;simp only at d;split at d;exact(QM d).elim;exact(QN d).elim;rename_i fo;unfold Nt at d;split at d;split at d<;>cases d;rename_i l' first cap hf
 injection d with d;injection d with h1 h2;subst h1 h2;refine⟨λw=>?_,λm u x j=>?_⟩;unfold execOp;simp only[ho,hf,Pa,resolve,HX,Ren.fn,D8,FV,DG,invoke,I0];congr 2;apply F7;simp;have q:=(u fo);rw[hf]at q;simp only[DQ,DL]at j;obtain j|⟨y,_,rfl⟩:=j;exact q.first.1 x j
 exact u y;cases d;cases d;cases d
theorem VS{C:Ctx}{ρ0:Ren}{h0:Hp}(hE:EnvOk2 X.E X.P)(hX:C.E=X.E)(hC:CalOk X C.C){s:St}(y:yh o=φ){k:St->List Nat->Option β}{r:β}(p:effK C s o k=ξ r):
  ∃I W,k I W=ξ r/\∀(J:Option Nat) (kk:Nat) (a:Act) (w:World) (ρ:Ren) (M:List Nat),TR ρ s.t C.nt a.tmps->(∀i,Nb (3*s.n) (nth s.t i))->Post X ρ0 C.n0 h0 w0 s.w ρ undef s.h s.n w->a.defers=fW M->M.Nodup->
   (∀k∈M,w.heap[k]?=ξ (.deferred (ξ []))/\w0.heap.size<=k/\∀b,(s.h.at b).isSome->ρ.b b≠k)->
   ∀(K:Act->World->Prop) (Q:Exit->Act->World->Prop),(∀a' w',KN X C.nt C.n0 ρ0 h0 w0 I a' w'->K a' w')->o.wpIn (Wd J) kk X.P a w K Q:=by
 unfold effK at p;rw[hX]at p;split at p
 .rename_i v h1 n1 W hv;obtain⟨I,G,g⟩:=tD p;refine⟨I,W,G,λJ kk a w ρ M H D q B F Z1 K Q N=>?_⟩;obtain⟨u,w',nx,T,a0,d⟩:=QL hE q.sim q.nb (λx=>eJ D x) hv;refine uj y (by rw[oZ H y];exact T) a0 (N _ _ (g a w ρ M H D q B F Z1 u w' d))
 .rename_i f args hv;split at p
  .rename_i v h1 n1 W hcall;obtain⟨I,G,g⟩:=tD p;refine⟨I,W,G,λJ kk a w ρ M H D q B F Z1 K Q N=>?_⟩;obtain⟨Z0,A⟩:=bN hv;obtain⟨T,j⟩:=hC.call _ _ _ _ _ _ _ _ hcall (kk-1) ρ w q.sim q.nb (A _ (λx=>eJ D x));refine⟨λ_ _=>trivial,?_⟩;rw[H5 _ _ _ (λc V=>by unfold yh at y;rw[V]at y;simp at y),oZ H y,Z0 w,T];refine⟨λZ3=>by simp[Wd,Fx]at Z3,?_⟩;have R:CallsIn (Wd J) (kk-1) X.P f (args.map (conc ρ)).toArray w λe w'=>∃u,e=.returned (conc u v)/\Post X ρ s.n s.h w W u v h1 n1 w':=j;exact BU
  cases p
 .rename_i l args hv;split at p
  .rename_i v h1 n1 W hcall;obtain⟨I,G,g⟩:=tD p;refine⟨I,W,G,λJ kk a w ρ M H D q B F Z1 K Q N=>?_⟩;obtain⟨Z0,A⟩:=iT hv;obtain⟨f,tm,L,Z4,T,j⟩:=hC.yl _ _ _ _ _ _ _ _ hcall (kk-1) ρ w q.sim q.nb (A _ (λx=>eJ D x));refine⟨λ_ _=>trivial,?_⟩;rw[H5 _ _ _ (λc V=>by unfold yh at y;rw[V]at y;simp at y),oZ H y,Z0 w,T];refine⟨λZ3=>by simp[Wd,Fx]at Z3,?_⟩;have R:RoundIn (Wd J) (kk-1) X.P (ρ.b l) f tm L Z4 w λe w'=>∃u,e=.returned (conc u v)/\Post X ρ s.n s.h w W u v h1 n1 w':=j;exact BU
  cases p
 cases p
end
end
section
variable{E:Env}{ρ:Ren}
section
variable{X:Rel}{C:Ctx}{ρ0:Ren}{h0:Hp}
def Pc(X:Rel)(C:Ctx)(ρ0:Ren)(h0:Hp)(w0:World)(s:St)(o:Oper)(s':St):Prop:=
 ∀(ro:Option Nat) (kk:Nat) (a:Act) (w:World) (ρ:Ren) (M:List Nat),TR ρ s.t C.nt a.tmps->(∀i,Nb (3*s.n) (nth s.t i))->Post X ρ0 C.n0 h0 w0 s.w ρ undef s.h s.n w->a.defers=fW M->M.Nodup->
   (∀k∈M,w.heap[k]?=ξ (.deferred (ξ []))/\w0.heap.size<=k/\∀b,(s.h.at b).isSome->ρ.b b≠k)->
   ∀(K:Act->World->Prop) (Q:Exit->Act->World->Prop),(∀a' w',KN X C.nt C.n0 ρ0 h0 w0 s' a' w'->K a' w')->o.wpIn (Wd ro) kk X.P a w K Q
theorem fN{P:Program}(c:EnvOk E P){g:Operand->ψ}(e:∀x,Nb m (g x))(h:yy E o.op g=ξ v):Nb m v:=by intro ρ a d;have w:World:=default;have f:=rD c w ρ (λ_=>rfl) h;have i:=rD c w a (λ_=>rfl) h;have:(λx=>conc a (g x))=λx=>conc ρ (g x):=funext λx=>e x ρ a d;grind
theorem uu{s:St}(l:yh o=φ){k:St->Option β}{r:β}(B:done C s o.dst v s.h s.n [] k=ξ r)
  (hv:∀(ρ:Ren) (w:World),Sim X ρ s.h w->Kq (3*s.n) s.h->(∀i,Nb (3*s.n) (nth s.t i))->(execOp (λx=>conc ρ (ev s.t x)) o).run X.P w=.ok (.value (conc ρ v)) w/\Nb (3*s.n) v):
  ∃e,k e=ξ r/\Pc X C ρ0 h0 w0 s o e:=by
 obtain⟨e,p,d⟩:=tD B;refine⟨e,p,λG F a w ρ M q g c f j A K Q y=>?_⟩;obtain⟨D,u⟩:=hv ρ w c.sim c.nb g;exact uj l (by rw[oZ q l];exact D) (.inl rfl) (y _ _ (d a w ρ M q g c f j A ρ w (Post.refl c.sim c.nb u)))
theorem mR(A:EnvOk2 X.E X.P){s:St}(q:yh o=φ){m:Mk}(hm:Kl X.E o.op (ev s.t)=ξ m){k:St->Option β}{r:β}(c:Mc C s o.dst m k=ξ r):
  ∃f,k f=ξ r/\Pc X C ρ0 h0 w0 s o f:=by
 unfold Mc at c;rw[xZ]at c;obtain⟨I,c,i⟩:=Tr.set_some θ _ _ _ _ _ c;obtain⟨f,u,e⟩:=tD c;refine⟨f,u,λL J a w ρ M y l g j p D K Q B=>?_⟩;obtain⟨H,G,F,d⟩:=QJ A.toEnvOk g.sim g.nb (λx=>eJ l x) hm i;exact uj q (by rw[oZ y q];exact F) (.inl rfl) (B _ _ (e a w ρ M y l g j p D H G d))
def VT(e:EnvOk2 X.E X.P){s:St}(c:uA X.E o.op (ev s.t) s.h=ξ (v,b)){w:World}(i:Sim X ρ s.h w)(f:Kq (3*s.n) s.h):
  (execOp (λx=>conc ρ (ev s.t x)) o).run X.P w=.ok (.value (conc ρ v)) w/\Nb (3*s.n) v:=by unfold uA at c;split at c;rename_i t a ho;split at c;rename_i ad ha;split at c;rename_i u hu;simp at c;obtain⟨rfl,rfl⟩:=c;have⟨g,d,_⟩:=oM e.toEnvOk i f hu;refine⟨?_,d⟩;unfold execOp;simp[ho,ha,am2,G4,g];cases c;cases c;cases c
theorem VU(c:EnvOk2 X.E X.P)(p:C.E=X.E)(y:CalOk X C.C){s:St}(e:yh o=φ){k:St->Option β}{r:β}(a:Mx C s o k=ξ r):
  ∃l,k l=ξ r/\Pc X C ρ0 h0 w0 s o l:=by
 unfold Mx at a;rw[p]at a;split at a
 .split at a
  .rename_i v hv;exact BT
  cases a
 .split at a
  .rename_i v b hv;exact uu e a λρ w g f i=>VT c hv g f
  cases a
 .split at a
  .rename_i m hm;exact mR c e hm a
  cases a
 .obtain⟨l,W,u,j⟩:=VS c p y e a;exact⟨l,u,j⟩
 split at a
 .rename_i m hm;exact mR c e hm a
 split at a
 .rename_i t d x hop;split at a
  .rename_i v hv;refine uu e a λρ w g f i=>?_;obtain⟨A,q⟩:=VQ c.toEnvOk g f hv;refine⟨?_,q⟩;unfold execOp;simp[hop,A]
  split at a
  .rename_i v hv;exact BT
  cases a
 cases a
def VV{s:St}{a:Act}{e:Array Oper}(f:TR ρ s.t nt a.tmps)(o:Oper):H6 o (yielded e a.tmps)=vf e.toList s.t o:=by
 unfold H6 vf;cases hg:o.guard with
 |none=>rfl
 |some p=>
  have⟨j,b⟩:=p;simp only[HU];unfold yielded;cases hj:e[j]? with
  |none=>simp
  |some g=>
   simp only[Hh];cases hdst:g.dst with
   |none=>simp
   |some d=>
    by_cases hlt:d<nt;simp only[Hh,f.at_ d hlt];cases hv:nth s.t d with
    |bool c=>cases b<;>cases c<;>simp
    |pointer q=>cases q<;>simp
    |slice q _ _=>cases q<;>simp
    |_=>simp[conc]
    have i:a.tmps[d]?=θ:=FU (by rw[f.size];exact GC hlt);have l:=f.past d (GC hlt);simp[i,l,undef]
theorem VW(Z4:EnvOk2 X.E X.P)(V:C.E=X.E)(T:CalOk X C.C){c:Array Oper}(H:∀o∈c,yh o=φ):∀(d j:Nat) (s s':St),j+d=c.size->tM C c.toList (c.toList.drop j) s=ξ s'->
  ∀(g:Option Nat) (kk:Nat) (a:Act) (w:World) (Q:Exit->Act->World->Prop),KN X C.nt C.n0 ρ0 h0 w0 s a w->(∀l u,KN X C.nt C.n0 ρ0 h0 w0 s' l u->Q .normal l u)->
   wpOpsIn (Wd g) kk X.P c Q (Jz j d) a w:=by
 intro d;induction d with
 |zero=>
  intro j s s' W e g kk a w Q D F;rw[List.drop_eq_nil_of_le eP]at e;simp[tM]at e;subst e;exact F a w D
 |succ d ih=>
  intro j s s' W e g kk a w Q D F;have y:j<c.size:=Z;rw[List.drop_eq_getElem_cons eP]at e;rw[List.range'_succ];have G:c[j]?=ξ c[j]:=Hl y;have Z1:c.toList[j]' eP=c[j]:=by simp
  rw[Z1]at e;obtain⟨ρ,M,B,I,p,J,K,L⟩:=D;have R:=H _ (G1 y);show(match c[j]? with
   |none=>wpOpsIn (Wd g) kk X.P c Q (Jz (j+1) d) a w
   |some o=>if H6 o (yielded c a.tmps)then o.wpIn (Wd g) kk X.P a w (wpOpsIn (Wd g) kk X.P c Q (Jz (j+1) d)) Q
     else(∀f,o.about X.P w a.eval=ξ f->(Wd g).fn f)/\wpOpsIn (Wd g) kk X.P c Q (Jz (j+1) d) (a.put o.dst undef) w)
  rw[G];simp only;rw[VV B];change Hq (motive:=λ_=>Option St) (done C s c[j].dst undef s.h s.n [] (tM C c.toList (c.toList.drop (j+1)))) (Mx C s c[j] (tM C c.toList (c.toList.drop (j+1)))) (vf c.toList s.t c[j])=ξ s' at e;cases hw:vf c.toList s.t c[j]with
  |true=>
   rw[hw]at e;simp only[if_true];obtain⟨S,A,i⟩:=VU Z4 V T R e;exact i g kk a w ρ M B I p J K L _ _ λl u N=>ih (j+1) S s' Z A g kk l u Q N F
  |false=>
   rw[hw]at e;simp only[Ew,if_false];refine⟨λ_ _=>trivial,?_⟩;obtain⟨S,A,q⟩:=tD e;have:=q a w ρ M B I p J K L ρ w (Post.refl p.sim p.nb Nb.undef)
   grind [Vn]
end
end
section
variable{ρ ρ':Ren}
section
variable{w:World}
def nU{c:Code}(J:Nat->Act->World->Prop)(h0:∀a w,¬J 0 a w)(q:∀j a w,J (j+1) a w->c.wpIn F n P (Exit.then (λg w'=>J j g w') Q) a w)(j:Nat)(o:J j a w):(Code.loop c).wpIn F n P Q a w:=by
 intro b k s B u y;have D:∀j a w,J j a w->∃e g w',Q e g w'/\ArrivesIn (Machine.fenced P F) P (lone (b.atR a (.code c:: .inLoop c::k)) s w) b k s e g w':=by
  intro j;induction j with
  |zero=>intro a w o;exact Cu o (h0 a w)
  |succ j ih=>
   intro a w o;have⟨e,i,m,f,d⟩:=q j a w o b (.inLoop c::k) s B u y;cases e with
   |normal=>
    have⟨H,G,I,A,p⟩:=ih i m f;exact⟨H,G,I,A,.of_steps (ak4 d (.one (fenced_calm u y ω) stepR_inLoop)) p⟩
   |exit id=>exact⟨_,i,m,f,.pass (x:=.inLoop c) ω (λ_ _=>.inl eC) d⟩
   |goto l=>exact⟨_,i,m,f,.pass (x:=.inLoop c) ω (λ_ _=>.inl eC) d⟩
   |ret=>exact⟨_,i,m,f,.pass (x:=.inLoop c) ω (λ_ _=>.inl eC) d⟩
   |panic ch=>exact⟨_,i,m,f,.pass (x:=.inLoop c) ω (λ_ _=>.inl eC) d⟩
   |outgrown=>exact⟨_,i,m,f,.pass (x:=.inLoop c) ω (λ_ _=>.inl eC) d⟩
 have⟨e,g,w',f,d⟩:=D j a w o;exact⟨e,g,w',f,.of_steps (.one (fenced_calm u y ω) stepR_loop) d⟩
def wj{b:Frame}{k:List Item}{cs:List Frame}{c:Code}:step P (lone (b.atR a (.code (.scope c)::k)) cs w)=.next (lone (b.atR a (.code c:: .inScope c::k)) cs w):=
 step_lone_go (by simp[stepG,aq8,au0])
def lQ{b:Frame}{k:List Item}{cs:List Frame}{c:Code}:step P (lone (b.atR a (.inScope c::k)) cs w)=.next (lone (b.atR a k) cs w):=
 step_lone_go (by simp[stepG,aq8,au0])
def pm{c:Code}(h:c.wpIn F n P Q a w)(hq:∀l a w,¬Q (.goto l) a w):(Code.scope c).wpIn F n P Q a w:=by
 intro b k cs hro hb hr;have h0:(lone (b.atR a (.code (.scope c)::k)) cs w).fenced P F:=fenced_calm hb hr rfl;have⟨e,a₁,w₁,hq1,harr⟩:=h b (.inScope c::k) cs hro hb hr;cases e with
 |normal=>exact⟨.normal,a₁,w₁,hq1,.head h0 wj (ak4 harr (.one (fenced_calm hb hr ω) lQ))⟩
 |exit id=>
  have hx:exitTo id (.inScope c::k)=exitTo id k:=by simp[exitTo]
  exact⟨_,a₁,w₁,hq1,λk' hk=>.head h0 wj (harr.1 k' (by rw[hx];exact hk)),
   λhr' hk=>let ⟨k₁,h1,h2⟩:=harr.2 hr' (by rw[hx];exact hk);⟨k₁,h1,.head h0 wj h2⟩⟩
 |goto l=>exact Cu hq1 (hq l a₁ w₁)
 |ret=>exact⟨_,a₁,w₁,hq1,.of_steps (.one h0 wj) harr⟩
 |panic ch=>exact⟨_,a₁,w₁,hq1,.of_steps (.one h0 wj) harr⟩
 |outgrown=>exact⟨_,a₁,w₁,hq1,.of_steps (.one h0 wj) harr⟩
end
section
variable{X:Rel}{C:Ctx}{ρ0:Ren}{h0:Hp}
def MK(w0:World)(M:List Nat)(h:Hp)(ρ:Ren)(w:World):Prop:=∀k∈M,w.heap[k]?=ξ (.deferred (ξ []))/\w0.heap.size<=k/\∀b,(h.at b).isSome->ρ.b b≠k
def MK.step{M:List Nat}{n:Nat}{h h':Hp}{w:World}(m:MK w0 M h ρ w)(d:Post X ρ n h w W ρ' v h' n' w'):MK w0 M h' ρ' w':=by intro k p;have⟨l,s,g⟩:=m k p;have j:k<w.heap.size:=(Dv.1 l).1;refine⟨?_,s,λb e f=>?_⟩;rw[d.fr k j λb e=>g b (d.wmem b e)];exact l;by_cases hb3:b<3*n;have q:(h.at b).isSome:=(by by_cases hbW:b∈W;exact d.wmem b hbW;rw[<-d.old b hb3 hbW];exact e);rw[(d.agr b hb3).1]at f;exact g b q f;obtain i|⟨c,o,i⟩:=d.new b Z e;omega;rw[i]at f;exact g c (d.wmem c o) f
def Post.shut{n:Nat}{h h':Hp}{w:World}(p:Post X ρ0 n0 h0 w0 W ρ v h n w)(hb:3*n0<=b)(y:(h.at b).isSome)(L:w0.heap.size<=ρ.b b)(s:∀c,h'.at c=if c=b then θ else h.at c)
  (g:∀k,k≠ρ.b b->w'.heap[k]?=w.heap[k]?)(D:w'.heap.size=w.heap.size)(B:w'.os=w.os)(G:w'.tape=w.tape)(m:w'.output=w.output):Post X ρ0 n0 h0 w0 W ρ v h' n w':=by have f:∀c x,h'.at c=ξ x->c≠b/\h.at c=ξ x:=λc x d=>(by rw[s]at d;split at d;cases d;exact⟨gY,d⟩);have e:∀c,(h'.at c).isSome->c≠b/\(h.at c).isSome:=λc d=>(by have⟨x,H⟩:=Do.1 d;exact⟨(f c x H).1,by rw[(f c x H).2];rfl⟩);refine⟨p.agr,p.le,⟨λc x d=>?_,λc q l u j=>p.sim.inj c q (e c l).2 (e q u).2 j⟩,λc x d=>p.nb c x (f c x d).2,p.val,p.wlt,p.wmem,λk I i=>?_,by rw[D];exact p.size,B.trans p.os,G.trans p.tape,m.trans p.out,λc d l=>p.new c d (e c l).2,λc d i=>?_⟩;have⟨A,d⟩:=f c x d;have⟨o,J,K⟩:=p.sim.blk c x d;refine⟨o,?_,K⟩;rw[g _ (λj=>A (p.sim.inj c b (by rw[d];rfl) y j))];exact J;rw[g k Z];exact p.fr k I i;rw[s,Cv Z];exact p.old c d i
def Post.wcongr{n:Nat}{h:Hp}{w:World}{f:List Nat}(p:Post X ρ0 n0 h0 w0 W ρ v h n w)(e:∀b,b∈W↔b∈f):Post X ρ0 n0 h0 w0 f ρ v h n w:=
 ⟨p.agr,p.le,p.sim,p.nb,p.val,λb d=>p.wlt b ((e b).2 d),λb d=>p.wmem b ((e b).2 d),λk m h=>p.fr k m λb d=>h b ((e b).1 d),p.size,p.os,p.tape,p.out,
  λb d l=>(p.new b d l).imp id λ⟨c,i,j⟩=>⟨c,(e c).1 i,j⟩,λb d h=>p.old b d λg=>h ((e b).1 g)⟩
def exOf:Ex->Exit
 | .normal=>.normal
 | .exit id=>.exit id
 | .ret=>.ret
def fL(hE:EnvOk2 X.E X.P)(hC:CalOk X C.C){g:Operand}{ps:Array Tmp}{assign:Code}(hg:qD g=φ)(hok1:X.ok assign)(hok2:X.ok body){s s':St}{x:Ex}
  (hr:qQ C (ev s.t g) ps.toList assign body s=ξ (x,s'))(kk:Nat)(a:Act)(w:World)(Q:Exit->Act->World->Prop)(hI:KN X C.nt C.n0 ρ0 h0 w0 s a w)(hQ:∀a' w',KN X C.nt C.n0 ρ0 h0 w0 s' a' w'->Q (exOf x) a' w'):
  (Code.rangeFunc g ps assign body).wpIn (Wd θ) kk X.P Q a w:=by
 have⟨ρ,M,ht,hn,hp,hdf,hnd,hM⟩:=hI;unfold qQ at hr;split at hr;rename_i gf first cap hgv hround
 rw[xm,xm]at hr;have⟨t1,hr,hg1⟩:=Tr.set_some θ _ _ _ _ _ hr;have⟨t2,hr,hg2⟩:=Tr.set_some θ _ _ _ _ _ hr;split at hr;rename_i v3 h3 n3 w3 hcall;split at hr;rename_i r p tt nt' ps' as' bd' d' hl3 hd3;split at hr;rename_i x' hj;have⟨t4,hr,hg4⟩:=Tr.set_some θ _ _ _ _ _ hr;have⟨t5,hr,hg5⟩:=Tr.set_some θ _ _ _ _ _ hr;simp at hr;obtain⟨rfl,rfl⟩:=hr;have hpd:Post X ρ s.n s.h w [] (ρ.upd (3*s.n+2) w.heap.size 0 (λ_=>rfl) Z) undef t1 (s.n+1) (w.alloc (.deferred (ξ []))):=
      pB hp.sim hp.nb (y:=.dfr) (λ_=>rfl) Z Z Z ω ω ω ω ω hg1 ω trivial Nb.undef
 generalize hρ1:ρ.upd (3*s.n+2) w.heap.size 0 (λ_=>rfl) Z=ρ1 at hpd;have hb1:ρ1.b (3*s.n+2)=w.heap.size:=by rw[<-hρ1];simp[Ren.upd]
 have ht1:=ht.agr hn hpd.agr;have hn1:∀i,Nb (3*(s.n+1)) (nth s.t i):=λi=>(hn i).mono Z;refine wpIn_rangeFunc λfn _=>?_;let w1a:=w.alloc (.deferred (ξ []));let lo:Obj:=.loop {state:=.ready,pending:=θ,fn:=fn,tmps:=a.tmps,params:=ps,assign:=assign,body:=body,defers:=w.heap.size};have hsz1:w1a.heap.size=w.heap.size+1:=by simp[w1a]
 have hx2:gro (3*(s.n+1)+2)=χ->(0:Nat)=0:=λ_=>rfl;have hm2:(3*(s.n+1)+2)%3≠0:=Z;have hagr2:=ρ1.upd_agr (3*(s.n+1)+2) w1a.heap.size 0 hx2 hm2 (m:=3*(s.n+1)) Z;have hpl:Post X ρ1 (s.n+1) t1 w1a [] (ρ1.upd (3*(s.n+1)+2) w1a.heap.size 0 hx2 hm2) undef t2 (s.n+1+1) (w1a.alloc lo):=
      pB hpd.sim hpd.nb (y:=.loop φ θ s.t C.nt ps.toList assign body (3*s.n+2)) hx2 hm2 Z Z ω ω ω ω ω hg2
       ⟨fn,a.tmps,by rw[(hagr2 (3*s.n+2) Z).1,hb1];simp[lo],ht1.agr hn1 hagr2,hok1,hok2⟩ ⟨hn1,Z⟩ Nb.undef
 generalize hρ2:ρ1.upd (3*(s.n+1)+2) w1a.heap.size 0 hx2 hm2=ρ2 at hpl;have hb2:ρ2.b (3*(s.n+1)+2)=w.heap.size+1:=by rw[<-hρ2];simp[Ren.upd,hsz1]
 have hfv:Nb (3*s.n) (.func (.func gf) first cap):=by rw[<-hgv];exact eJ hn g
 have hag12:Kv (3*s.n) ρ ρ2:=hpd.agr.trans hpl.agr Z;have hargsN:∀y∈first.toList++([HY (.yield (3*(s.n+1)+2)) #[] #[]]++cap.toList),Nb (3*(s.n+1+1)) y:=λy hy=>(by simp only[DQ,List.mem_singleton]at hy;obtain hy|rfl|hy:=hy;exact(hfv.first.1 y hy).mono Z;intro r1 r2 hr;simp[Ren.fn,(hr (3*(s.n+1)+2) Z).1];exact(hfv.first.2 y hy).mono Z);have⟨hent,hcalls⟩:=hC.call _ _ _ _ _ _ _ _ hcall (kk-1) ρ2 (w1a.alloc lo) hpl.sim hpl.nb hargsN;have haval:a.eval g=.func (.func gf) (first.map (conc ρ)) (cap.map (conc ρ)):=(by rw[eM ht hg,hgv];simp[Ren.fn]);have hfirst:first.toList.map (conc ρ2)=first.toList.map (conc ρ):=Nb.map hfv.first.1 hag12
 have hcap:cap.toList.map (conc ρ2)=cap.toList.map (conc ρ):=Nb.map hfv.first.2 hag12
 have hargs:(first.map (conc ρ)++#[HY (.yield (w.heap.size+1)) #[] #[]])++cap.map (conc ρ)=((first.toList++([HY (.yield (3*(s.n+1)+2)) #[] #[]]++cap.toList)).map (conc ρ2)).toArray:=(by apply F7;simp only[Eu,hfirst,hcap];simp[Ren.fn,hb2]);refine⟨w.heap.size+1,[{target:=.collected w.heap.size,args:=#[]}],w1a.alloc lo,{target:=.fn (.func gf) (cap.map (conc ρ)),args:=first.map (conc ρ)++#[HY (.yield (w.heap.size+1)) #[] #[]]},w1a.alloc lo,gf,((first.toList++([HY (.yield (3*(s.n+1)+2)) #[] #[]]++cap.toList)).map (conc ρ2)).toArray,w1a.alloc lo,
      run_enterLoop_outer fn a.tmps ps assign body,?_,λ_ _=>trivial,?_,λhd=>by simp[Wd,Fx]at hd,?_⟩
 simp[resolve,rangeCall,haval,HX];rfl;simp only[invoke];rw[hargs];exact hent;have hc2:CallsIn (Wd θ) (kk-1) X.P gf ((first.toList++([HY (.yield (3*(s.n+1)+2)) #[] #[]]++cap.toList)).map (conc ρ2)).toArray (w1a.alloc lo) λe w'=>∃ρ',e=.returned (conc ρ' v3)/\Post X ρ2 (s.n+1+1) t2 (w1a.alloc lo) w3 ρ' v3 h3 n3 w':=hcalls;refine hc2.mono λe w' hew=>?_;obtain⟨ρ3,rfl,hpc⟩:=hew;have hb3l:ρ3.b (3*(s.n+1)+2)=w.heap.size+1:=by rw[(hpc.agr _ Z).1,hb2]
 have hb3d:ρ3.b (3*s.n+2)=w.heap.size:=by rw[(hpc.agr _ Z).1,(hpl.agr _ Z).1,hb1]
 have⟨ol,hol,hrl⟩:=hpc.sim.blk _ _ hl3;obtain⟨fn',tm',rfl,htl,_⟩:=hrl;rw[hb3l]at hol;obtain⟨od,hod,rfl⟩:=hpc.sim.blk _ _ hd3;rw[hb3d]at hod;have hp1:=(hp.trans hpd).trans (hpl.trans hpc);have hsz0:w0.heap.size<=w.heap.size:=hp.size;have hMM:MK w0 M h3 ρ3 w':=((MK.step hM hpd).step hpl).step hpc;have hnb:(if r=φ then LoopState.ready else if p.isNone=φ then LoopState.busy else LoopState.done)≠.busy:=(by cases r<;>cases p<;>simp[N3]at hj⊢);let lo2:Obj:=.loop {state:=.exhausted,pending:=p,fn:=fn',tmps:=tm',params:=ps'.toArray,assign:=as',body:=bd',defers:=ρ3.b d'};let w4:=w'.putObj (w.heap.size+1) lo2;have hend:=run_endLoop (P:=X.P) hol hnb;have hfar4:∀k,k≠w.heap.size+1->w4.heap[k]?=w'.heap[k]?:=λk hk=>Fs hk;have hp4:=Post.shut (h':=t4) (w':=w4) hp1 (by have:=hp.le;omega) (by rw[hl3];rfl) (by rw[hb3l];omega) hg4 (by rw[hb3l];exact hfar4) (by simp[w4]) ω ω rfl;have hd4:Hp.at t4 (3*s.n+2)=ξ .dfr:=(by show Tr.get θ t4 _=_;rw[hg4,Cv Z];exact hd3);have hp5:=Post.shut (h':=t5) (w':=w4) hp4 (by have:=hp.le;omega) (by rw[hd4];rfl) (by rw[hb3d];omega) hg5 (λ_ _=>rfl) ω ω ω rfl;have hat5:∀b,(Hp.at t5 b).isSome->b≠3*s.n+2/\b≠3*(s.n+1)+2/\(h3.at b).isSome:=λb hb=>(by have hb':(Tr.get θ t5 b).isSome:=hb;rw[hg5]at hb';split at hb';cases hb';rename_i h1;rw[hg4]at hb';split at hb';cases hb';rename_i h2;exact⟨h1,h2,hb'⟩);have hI':KN X C.nt C.n0 ρ0 h0 w0 {t:=s.t,h:=t5,n:=n3,w:=addW C.n0 w3 s.w} {a with defers:=[{target:=.collected w.heap.size,args:=#[]}]++a.defers} w4:=(by have hag3:Kv (3*s.n) ρ ρ3:=hag12.trans hpc.agr Z;have hle3:=hpc.le;refine⟨ρ3,w.heap.size::M,ht.agr hn hag3,λi=>(hn i).mono (by show 3*s.n<=3*n3;omega),?_,?_,?_,λk hk=>?_⟩;refine(hp5.wv Nb.undef).wcongr λb=>?_;have:=hp.le;simp only[yN];constructor;rintro((h|⟨h,_⟩)|⟨h|⟨h,_⟩,h'⟩);exact .inl h;cases h;cases h;exact .inr ⟨h,h'⟩;rintro(h|⟨h,h'⟩);exact .inl (.inl h);exact .inr ⟨.inr ⟨h,Z⟩,h'⟩;simp[fW,hdf];refine Ih.2 ⟨λhk=>?_,hnd⟩;have:=(Dv.1 (hM _ hk).1).1;omega;obtain rfl|hk:=De.1 hk;refine⟨?_,hsz0,λb hb he=>?_⟩;rw[hfar4 _ Z];exact hod;have⟨h1,h2,h3'⟩:=hat5 b hb;exact h1 (hpc.sim.inj b (3*s.n+2) h3' (by rw[hd3];rfl) (by rw[he,hb3d]));have⟨m1,m2,m3⟩:=hMM k hk;refine⟨?_,m2,λb hb=>m3 b (hat5 b hb).2.2⟩;rw[hfar4 k (λe=>?_)];exact m1;exact m3 (3*(s.n+1)+2) (by rw[hl3];rfl) (by rw[hb3l,e]));refine⟨p,w4,hend,?_⟩;have hfin:=hQ _ _ hI';unfold N3 at hj;split at hj;injection hj with hj;subst hj;exact hfin;injection hj with hj;subst hj;exact wpIn_ret hfin;injection hj with hj;subst hj;exact wpIn_exit hfin;cases hj;cases hr;cases hr;cases hr;cases hr
def xf(reg:Array Oper->Bool):Code->Bool
 | .region _ ops d=>ops.all yh&&(!d||reg ops)
 | .seq a b=>xf reg a&&xf reg b
 | .cond c a b=>qD c&&(xf reg a&&xf reg b)
 | .block _ c=>xf reg c
 | .loop c=>xf reg c
 | .scope c=>xf reg c
 | .rangeFunc f _ a b=>qD f&&(xf reg a&&xf reg b)
 |_=>φ
def MQ(X:Rel)(C:Ctx)(ρ0:Ren)(h0:Hp)(w0:World)(reg:Array Oper->Bool):Prop:=
 ∀(ops:Array Oper),reg ops=φ->(∀o∈ops,yh o=φ)->∀s s',wp C ops.toList ops.toList (xA ops.toList []) 0 ⟨s,[],[],[]⟩=ξ s'->
  ∀(ro:Option Nat) (kk:Nat) (a:Act) (w:World) (Q:Exit->Act->World->Prop),KN X C.nt C.n0 ρ0 h0 w0 s a w->(∀a' w',KN X C.nt C.n0 ρ0 h0 w0 s' a' w'->Q .normal a' w')->
   wpAnyIn (Wd ro) kk X.P .any ops Q ops.size (Ge ops.size χ) a {w with drawn:=w.drawn+1}
def qx{reg:Array Oper->Bool}(S:EnvOk2 X.E X.P)(hX:C.E=X.E)(V:CalOk X C.C)(R:∀c,X.ok c↔xf reg c=φ)(Z0:MQ X C ρ0 h0 w0 reg):∀(c:Code),xf reg c=φ->∀(s g:St) (x:Ex),vG C c s=ξ (x,g)->
  ∀(G:Option Nat) (kk:Nat) (a:Act) (w:World) (Q:Exit->Act->World->Prop),(C.round=θ->G=θ)->KN X C.nt C.n0 ρ0 h0 w0 s a w->(∀l a w,¬Q (.goto l) a w)->(∀I w',KN X C.nt C.n0 ρ0 h0 w0 g I w'->Q (exOf x) I w')->
   c.wpIn (Wd G) kk X.P Q a w:=by
 intro c;induction c with
 |skip=>
  intro _ s g x h G kk a w Q u A m B;have e:ξ (Ex.normal,s)=ξ (x,g):=h;injection e with e;injection e with h1 h2;subst h1 h2;exact wpIn_skip (B a w A)
 |label l=>
  intro _ s g x h G kk a w Q u A m B;have e:ξ (Ex.normal,s)=ξ (x,g):=h;injection e with e;injection e with h1 h2;subst h1 h2;exact wpIn_label (B a w A)
 |exit id=>
  intro _ s g x h G kk a w Q u A m B;have e:ξ (Ex.exit id,s)=ξ (x,g):=h;injection e with e;injection e with h1 h2;subst h1 h2;exact wpIn_exit (B a w A)
 |ret=>
  intro _ s g x h G kk a w Q u A m B;have e:ξ (Ex.ret,s)=ξ (x,g):=h;injection e with e;injection e with h1 h2;subst h1 h2;exact wpIn_ret (B a w A)
 |goto l=>intro _ s g x h;cases (show(θ:Option (Ex×St))=ξ (x,g)from h)
 |refuse y=>intro _ s g x h;cases (show(θ:Option (Ex×St))=ξ (x,g)from h)
 |region id ops d=>
  intro D s g x h G kk a w Q u A m B;simp[xf]at D;have N:∀o∈ops,yh o=φ:=λo ho=>(by obtain⟨i,hi,rfl⟩:=Jx.1 ho;exact D.1 i hi);cases d with
  |false=>
   have e:(match tM C ops.toList ops.toList s with|some s=>ξ (Ex.normal,s)|none=>θ)=ξ (x,g):=h;split at e;rename_i s1 hs1;injection e with e;injection e with h1 h2;subst h1 h2;refine wpIn_region ?_;rw[List.range_eq_range'];exact VW S hX V N ops.size 0 s s1 Z (by simpa using hs1) G kk a w Q A B;cases e
  |true=>
   have e:(match wp C ops.toList ops.toList (xA ops.toList []) 0 ⟨s,[],[],[]⟩with|some s=>ξ (Ex.normal,s)|none=>θ)=ξ (x,g):=h;split at e;rename_i s1 hs1;injection e with e;injection e with h1 h2;subst h1 h2;exact wpIn_region_any S.mixed (Z0 ops (by simpa using D.2) N s s1 hs1 G kk a w Q A B);cases e
 |seq p q ihp ihq=>
  intro D s g x h G kk a w Q u A m B;simp[xf]at D;have e:(match vG C p s with|some (.normal,g)=>vG C q g|r=>r)=ξ (x,g):=h;refine wpIn_seq ?_;split at e;rename_i s1 hs1;refine ihp D.1 s s1 _ hs1 G kk a w _ u A (λl a w=>m l a w) λI w' H=>?_;exact ihq D.2 s1 g x e G kk I w' Q u H m B;rename_i hne;refine ihp D.1 s g x e G kk a w _ u A (λl a w=>m l a w) λI w' H=>?_;cases x with
  |normal=>exact Cu e (hne g)
  |exit id=>exact B I w' H
  |ret=>exact B I w' H
 |cond o p q ihp ihq=>
  intro D s g x h G kk a w Q u A m B;simp[xf]at D;have e:(match ev s.t o with| U φ=>vG C p s| U χ=>vG C q s|_=>θ)=ξ (x,g):=h;have⟨ρ,M,ht,Z3⟩:=id A;have Z1:=eM ht D.1;split at e;rename_i hv;rw[hv]at Z1;exact wpIn_cond_true (by simpa using Z1) (ihp D.2.1 s g x e G kk a w Q u A m B);rename_i hv;rw[hv]at Z1;exact wpIn_cond_false (by simpa using Z1) (ihq D.2.2 s g x e G kk a w Q u A m B);cases e
 |block id p ihp=>
  intro D s g x h G kk a w Q u A m B;have e:(match vG C p s with|some (.exit j,g)=>(match DK j id with|true=>ξ (Ex.normal,g)|false=>ξ (.exit j,g))|r=>r)=ξ (x,g):=h;refine wpIn_block ?_;split at e;rename_i j s1 hs1;split at e;rename_i J;have J:=DC J;subst J;injection e with e;injection e with h1 h2;subst h1 h2;refine ihp D s s1 _ hs1 G kk a w _ u A (λl a w=>m l a w) λI w' H=>?_;show(if j=j then Q .normal I w' else _);rw[Cw rfl];exact B I w' H;rename_i J;have J:=GJ J;injection e with e;injection e with h1 h2;subst h1 h2;refine ihp D s s1 _ hs1 G kk a w _ u A (λl a w=>m l a w) λI w' H=>?_;show(if j=id then Q .normal I w' else Q (.exit j) I w');rw[Cv J];exact B I w' H;rename_i hne;refine ihp D s g x e G kk a w _ u A (λl a w=>m l a w) λI w' H=>?_;cases x with
  |normal=>exact B I w' H
  |exit j=>exact Cu e (hne j g)
  |ret=>exact B I w' H
 |loop p ihp=>
  intro D s g x h G kk a w Q u A m B;have e:fZ (vG C p) C.L s=ξ (x,g):=h;refine nU (λj a w=>∃s,fZ (vG C p) j s=ξ (x,g)/\KN X C.nt C.n0 ρ0 h0 w0 s a w) (λa w⟨s,Z4,_⟩=>by cases Z4) (λj a w⟨s,Z4,A⟩=>?_) C.L ⟨s,e,A⟩;have K:(match vG C p s with|some (.normal,g)=>fZ (vG C p) j g|r=>r)=ξ (x,g):=Z4;split at K;rename_i s1 hs1;exact ihp D s s1 _ hs1 G kk a w _ u A (λl a w=>m l a w) λI w' H=>⟨s1,K,H⟩;rename_i hne;refine ihp D s g x K G kk a w _ u A (λl a w=>m l a w) λI w' H=>?_;cases x with
  |normal=>exact Cu K (hne g)
  |exit id=>exact B I w' H
  |ret=>exact B I w' H
 |scope p ihp=>
  intro D s g x h G kk a w Q u A m B;exact pm (ihp D s g x h G kk a w Q u A m B) m
 |rangeFunc f ps asg bd _ _=>
  intro D s g x h G kk a w Q u A m B;simp[xf]at D;have e:qQ C (ev s.t f) ps.toList asg bd s=ξ (x,g):=h;have T:C.round=θ:=(by unfold qQ at e;split at e;rename_i T;exact T;cases e);have:=u T;subst this;exact fL S V D.1 ((R _).2 D.2.1) ((R _).2 D.2.2) e kk a w Q A B
end
end
section
variable{ρ ρ':Ren}{fn:Func}
section
variable{X:Rel}{ρ0:Ren}{h0:Hp}
def jI:∀(args:List ψ) (i:Nat) (t:Tr ψ) (k:Tr ψ->Option β) (r:β),oq args i t k=ξ r->
  ∃t',k t'=ξ r/\∀j,nth t' j=if i<=j/\j<i+O args then args.getD (j-i) undef else nth t j:=by
 intro args;induction args with
 |nil=>intro i t k r h;exact⟨t,h,λj=>by rw[Cv eC]⟩
 |cons v args ih=>
  intro i t k r h;have⟨c,e,a⟩:=Tr.set_some undef _ _ _ _ _ h;have⟨l,g,b⟩:=ih _ _ _ _ e;refine⟨l,g,λj=>?_⟩;rw[b];simp only[DJ];by_cases hj:j=i;subst hj;rw[Cv Z,Cw Z];show Tr.get undef c j=_;rw[a];simp;by_cases hr:i+1<=j/\j<i+1+O args;rw[Cw hr,Cw Z];rw[show j-i=(j-(i+1))+1 from Z];simp;rw[Cv hr,Cv Z];show Tr.get undef c j=_;rw[a,Cv hj]
def VY(e:O args<=nt){t:Tr ψ}(b:∀j,nth t j=if 0<=j/\j<0+O args then args.getD (j-0) undef else nth (Tr.mk undef d) j):
  TR ρ t nt ((args.map (conc ρ)).toArray++Ge (nt-(args.map (conc ρ)).toArray.size) undef):=by have a:∀j,nth (Tr.mk undef d) j=undef:=λj=>Tr.get_mk undef d j;refine⟨eP,λi c=>?_,λi c=>?_⟩;rw[b];by_cases hl:i<O args;rw[Cw Z];simp[Array.getElem?_append,hl,Iu];rw[Cv Z,a,Array.getElem?_append_right eP,Array.getElem?_replicate,Cw eP];simp;rw[b,Cv Z,a]
def Post.turn{h:Hp}{w:World}(p:Post X ρ0 n0 h0 w0 W ρ v h n w)(B:w0.heap.size<=k)(i:∀b,(h.at b).isSome->ρ.b b≠k)
  (a:∀j,j≠k->w'.heap[j]?=w.heap[j]?)(m:w'.heap.size=w.heap.size)(l:w'.os=w.os)(q:w'.tape=w.tape)(e:w'.output=w.output):Post X ρ0 n0 h0 w0 W ρ v h n w':=by refine⟨p.agr,p.le,⟨λc x g=>?_,p.sim.inj⟩,p.nb,p.val,p.wlt,p.wmem,λj u s=>?_,by rw[m];exact p.size,l.trans p.os,q.trans p.tape,e.trans p.out,p.new,p.old⟩;have⟨o,y,A⟩:=p.sim.blk c x g;exact⟨o,by rw[a _ (i c Av)];exact y,A⟩;rw[a j Z];exact p.fr j u s
def VZ(B:EnvOk2 X.E X.P){s:St}{w:World}(q:TR ρ s.t nt tm)(F:Sim X ρ s.h w)(C:Kq (3*s.n) s.h)(y:∀i,Nb (3*s.n) (nth s.t i)):∀(c:List ResultVar) (vs:List ψ),resE X.E s c=ξ vs->
  (c.mapM (m:=Sem) fun| .tmp t=>pure (tm.getD t undef)| .cell a t=>do loadVar t (<-asAddr (tm.getD a undef))).run X.P w=.ok (vs.map (conc ρ)) w/\∀v∈vs,Nb (3*s.n) v:=by
 intro c;induction c with
 |nil=>intro vs h;simp[resE]at h;subst h;simp
 |cons r c ih=>
  intro vs h;unfold resE at h;cases r with
  |tmp t=>
   simp only at h;split at h;rename_i l hl;simp at h;subst h;have⟨e,g⟩:=ih l hl;refine⟨?_,λv b=>?_⟩;rw[Jy];simp only[D8,FV,DG];rw[e];have:=q.getD t;simp at this;simp[this];obtain rfl|b:=De.1 b;exact y t;exact g v b;cases h
  |cell a t=>
   simp only at h;split at h;rename_i ad had;split at h;rename_i v l b hl;simp at h;subst h;have⟨e,g⟩:=ih l hl;have⟨D,A,_⟩:=oM B.toEnvOk F C b;refine⟨?_,λu o=>?_⟩;have p:=q.getD a;rw[had,Vm]at p;have j:((do loadVar t (<-asAddr (tm.getD a undef)):Sem ψ)).run X.P w=.ok (conc ρ v) w:=(by rw[p];simp[asAddr,D]);rw[Jy,D8];simp only;rw[j];simp only[D8,FV,DG];rw[e];simp;obtain rfl|o:=De.1 o;exact A;exact g u o;cases h;cases h
def pack(vs:List ψ):ψ:=match vs with|[v]=>v|vs=>.tuple ⟨vs⟩
theorem fJ(g:EnvOk2 X.E X.P){s:St}{w:World}(o:TR ρ s.t nt tm)(l:Sim X ρ s.h w)(j:Kq (3*s.n) s.h)(c:∀i,Nb (3*s.n) (nth s.t i))(h:resE X.E s fn.results.toList=ξ vs):
  (results fn tm).run X.P w=.ok (conc ρ (pack vs)) w/\Nb (3*s.n) (pack vs):=by
 have⟨p,b⟩:=VZ g o l j c _ _ h;refine⟨?_,?_⟩;have e:(fn.results.mapM (m:=Sem) fun| .tmp t=>pure (tm.getD t undef)| .cell a t=>do loadVar t (<-asAddr (tm.getD a undef))).run X.P w=.ok (vs.map (conc ρ)).toArray w:=by simp_all [IE]
 unfold results;rw[D8];refine Eq.trans (congrArg (λr=>Result.andThen r _) e) ?_;simp only[DG,FV];match vs with
 |[]=>simp[pack]
 |[v]=>simp[pack]
 |v::u::vs=>simp[pack]
 match vs with
 |[]=>exact Nb.tuple b
 |[v]=>exact b v eC
 |v::u::vs=>exact Nb.tuple b
def ec{h:Hp}{R:Ending->World->Prop}
  (l:∀w',Post X ρ0 n0 h0 w0 W ρ undef h n w'->∃v,(results fn tm).run X.P w'=.ok v w'/\R (.returned v) w'):∀(M:List Nat) (w:World),Post X ρ0 n0 h0 w0 W ρ undef h n w->MK w0 M h ρ w->M.Nodup->LeavesInM Fx k X.P fn tm R (fW M) .returning w:=by
 intro M;induction M with
 |nil=>intro w c _ _;exact l w c
 |cons m M ih=>
  intro w c g b;have⟨s,u,y⟩:=g m eC;have i:=(Ih.1 b).1;refine⟨eC,.inl ⟨m,w.putObj m (.deferred θ),ω,run_takeDeferred s,ih _ (c.turn u y (λj a=>Fs a) eC ω ω ω) (λj a=>?_) (Ih.1 b).2⟩⟩;have⟨o,p,q⟩:=g j A1;refine⟨?_,p,q⟩;rw[Fs (λe=>i (by rw[<-e];exact a))];exact o
def Post.forget{h h':Hp}{w:World}{u:ψ}(i:Sim X ρ h w)(j:Kq (3*n) h)(p:Post X ρ n h w [] ρ' u h' n' w')(hv:Nb (3*n) v):Post X ρ n h w [] ρ v h n w':=by have e:∀b x,h.at b=ξ x->w'.heap[ρ.b b]?=w.heap[ρ.b b]?:=λb x a=>(by have⟨o,g,_⟩:=i.blk b x a;exact p.fr _ (Dv.1 g).1 (λc l=>Cu l CO));refine⟨Kv.refl _ _,Cy,⟨λb x a=>?_,i.inj⟩,j,hv,p.wlt,p.wmem,p.fr,p.size,p.os,p.tape,p.out,λb a m=>?_,λ_ _ _=>rfl⟩;have⟨o,g,q⟩:=i.blk b x a;exact⟨o,by rw[e b x a];exact g,q⟩;have⟨x,s⟩:=Do.1 m;have:=(j b x s).1;omega
def iP:∀{vs:List ψ},uQ vs=φ->∀v∈vs,flat v=φ:=by
 intro vs;induction vs with
 |nil=>intro _ v a;cases a
 |cons u vs ih=>
  intro h v a;unfold uQ at h;split at h;obtain rfl|a:=De.1 a;assumption;exact ih h v a;cases h
def iQ(h:flat v=φ):conc ρ v=v:=by cases v<;>simp[flat]at h<;>simp
def QO(h:flat v=φ):Nb N v:=by cases v<;>simp[flat]at h<;>(try exact Nb.closed ω);all_goals simp[Nb]
def V0(h:uQ vs=φ):Nb N (pack vs):=by
 have b:=iP h;match vs with
 |[]=>exact Nb.tuple λv a=>Cu a CO
 |[v]=>exact QO (b v eC)
 |v::u::vs=>exact Nb.tuple λv a=>QO (b v a)
def jY(h:uQ vs=φ):conc ρ (pack vs)=pack vs:=by
 have a:=iP h;have e:vs.map (conc ρ)=vs:=by
  conv=>rhs;rw[<-HB vs]
  exact D5 λv b=>iQ (a v b)
 match vs with
 |[]=>simp[pack]
 |[v]=>exact iQ (a v eC)
 |v::u::vs=>
  show conc ρ (.tuple ⟨v::u::vs⟩)=.tuple ⟨v::u::vs⟩;rw[QD];exact congrArg Value.tuple (F7 (by simpa using e))
theorem bE{reg:Array Oper->Bool}(s:EnvOk2 X.E X.P){A:Cal}(G:CalOk X A)(Z4:∀c,X.ok c↔xf reg c=φ)(Z1:∀f fn c,X.E.fn f=ξ fn->fn.body=ξ c->xf reg c=φ)
  (hD:∀(C:Ctx) ρ0 h0 w0,C.E=X.E->CalOk X C.C->MQ X C ρ0 h0 w0 reg)
  {h h':Hp}(a:Md X.E A L f args h n=ξ (v,h',n',W))(k:Nat)(ρ:Ren)(w:World)(Z3:Sim X ρ h w)(hn:Kq (3*n) h)(ha:∀x∈args,Nb (3*n) x):
  (callFunc f (args.map (conc ρ)).toArray).run X.P w=.ok (.enter f (args.map (conc ρ)).toArray) w/\
  CallsIn Fx k X.P f (args.map (conc ρ)).toArray w λe w'=>∃ρ',e=.returned (conc ρ' v)/\Post X ρ n h w W ρ' v h' n' w':=by
 unfold Md at a;split at a;rename_i fn hfnE;refine⟨s.ent f fn hfnE _ w,?_⟩;split at a;rename_i body hbody;split at a;rename_i p;have p:=Da p;have⟨t,a,u⟩:=jI _ _ _ _ _ a;refine callsIn_of_wp_marks (s.get f fn hfnE) hbody trivial ?_;have R:∀j,nth (Tr.mk undef X.E.dT) j=undef:=λj=>Tr.get_mk undef _ j;have H:KN X fn.ntmps n ρ h w {t:=t,h:=h,n:=n,w:=[]} {tmps:=(args.map (conc ρ)).toArray++Ge (fn.ntmps-(args.map (conc ρ)).toArray.size) undef,defers:=[]} w:=by
  refine⟨ρ,[],VY p u,λi=>?_,Post.refl Z3 hn Nb.undef,ω,Ix,λk hk=>Cu hk CO⟩;show Nb _ (nth t i);rw[u];split;rename_i hi;have y:i<O args:=Z;have:args.getD (i-0) undef=args[i]:=by simp[Iu,y]
  rw[this];exact ha _ (List.getElem_mem y);rw[R];exact Nb.undef
 have K:∀x l,vG {E:=X.E,C:=A,L:=L,round:=θ,n0:=n,nt:=fn.ntmps} body {t:=t,h:=h,n:=n,w:=[]}=ξ (x,l)->(∀q,x≠.exit q)->
      (∀g w',KN X fn.ntmps n ρ h w l g w'->LeavesInM Fx k X.P fn g.tmps (λe w'=>∃ρ',e=.returned (conc ρ' v)/\Post X ρ n h w W ρ' v h' n' w') g.defers .returning w')->
      body.wpIn Fx k X.P (bodyPostM Fx k X.P fn λe w'=>∃ρ',e=.returned (conc ρ' v)/\Post X ρ n h w W ρ' v h' n' w') {tmps:=(args.map (conc ρ)).toArray++Ge (fn.ntmps-(args.map (conc ρ)).toArray.size) undef,defers:=[]} w:=by
     intro x l F T I;refine qx s ω G Z4 (hD _ _ _ _ ω G) body (Z1 f fn body hfnE hbody) _ l x F θ k _ w _ (λ_=>rfl) H (λ_ _ _ h=>h) λg w' m=>?_;cases x with
     |normal=>exact I g w' m
     |ret=>exact I g w' m
     |exit q=>exact Cu ω (T q)
 split at a;cases a;rename_i x l hexec F;refine K x l F (λq he=>hexec q (by rw[he])) λg w' m=>?_;have⟨ρ1,M,Z0,S,V,B,D,J⟩:=m;rw[B];refine ec (λa2 b=>?_) M w' V J D;split at a;rename_i vs hvs;rw[mT]at a;have⟨hr,a0⟩:=fJ s Z0 b.sim b.nb S hvs;refine⟨_,hr,?_⟩;split at a;rename_i hpure hw;injection a with a;injection a with h1 a;injection a with h2 a;injection a with h3 h4;subst h1 h2 h3 h4;have o:uQ vs=φ:=by grind
 refine⟨ρ,congrArg Ending.returned ((jY o).trans (jY o).symm),?_⟩;have a1:l.w=[]:=hw;rw[a1]at b;exact Post.forget Z3 hn b (V0 o);injection a with a;injection a with h1 a;injection a with h2 a;injection a with h3 h4;subst h1 h2 h3 h4;exact⟨ρ1,ω,b.wv a0⟩;cases a;cases a;cases a;cases a;cases a
end
end
section
variable{ρ:Ren}
section
variable{X:Rel}{ρ0:Ren}{h0:Hp}
def Post.put{h h':Hp}{w:World}{x y:Blk}{o:Obj}(p:Post X ρ0 n0 h0 w0 W ρ v h n w)(hb:b<3*n0)(s:(h0.at b).isSome)(hx:h.at b=ξ x)(j:∀c,h'.at c=if c=b then ξ y else h.at c)
  (I:pk X ρ b y o)(J:Me (3*n) y):Post X ρ0 n0 h0 w0 (b::W) ρ v h' n (w.putObj (ρ.b b) o):=by
 have f:∀c,(h'.at c).isSome->(h.at c).isSome:=λc a=>(by rw[j]at a;split at a;rename_i e;subst e;rw[hx];rfl;exact a);have A:(h.at b).isSome:=by rw[hx];rfl
 have⟨M,C,_⟩:=p.sim.blk b x hx;have B:=(Dv.1 C).1;refine⟨p.agr,p.le,⟨λc z a=>?_,λc q m u g=>p.sim.inj c q (f c m) (f q u) g⟩,λc z a=>?_,p.val,λc a=>?_,λc a=>?_,λk H i=>?_,by simpa using p.size,p.os,p.tape,p.out,λc a m=>?_,λc a i=>?_⟩;rw[j]at a;split at a;rename_i e;subst e;injection a with a;subst a;exact⟨o,by rw[World.putObj_heap_same B],I⟩;rename_i hne;have⟨K,D,F⟩:=p.sim.blk c z a;refine⟨K,?_,F⟩;rw[Fs (λg=>hne (p.sim.inj c b (by rw[a];rfl) A Z))];exact D;rw[j]at a;split at a;rename_i e;injection a with a;subst e a;exact⟨(p.nb _ _ hx).1,J⟩;exact p.nb c z a;obtain rfl|a:=De.1 a;exact hb;exact p.wlt c a;obtain rfl|a:=De.1 a;exact s;exact p.wmem c a;rw[Fs (λg=>i b eC (by rw[<-(p.agr b hb).1];first|exact g|exact g.symm))];exact p.fr k H λc a=>i c A1;exact(p.new c a (f c m)).imp id λ⟨d,G,g⟩=>⟨d,by simp[G],g⟩;rw[j,Cv (λe=>i (by simp[e]))];exact p.old c a λh=>i (by simp[h])
def V1{k:Tr ψ->Option β}{r:β}:∀(f:List Tmp) (c:List ψ) (t:Tr ψ) (tm:Array ψ),vv.setPs nt f c t k=ξ r->TR ρ t nt tm->(∀i,Nb N (nth t i))->(∀x∈c,Nb N x)->
  ∃a,k a=ξ r/\TR ρ a nt ((f.zip (c.map (conc ρ))).foldl (λtmps (q:Tmp×ψ)=>tmps.setIfInBounds q.1 q.2) tm)/\∀i,Nb N (nth a i):=by
 intro f;induction f with
 |nil=>intro c t tm h d j s;unfold vv.setPs at h;exact⟨t,h,Aq,j⟩
 |cons p f ih=>
  intro c t tm h d j s;cases c with
  |nil=>unfold vv.setPs at h;exact⟨t,h,Aq,j⟩
  |cons v c=>
   unfold vv.setPs at h;split at h;cases h;rename_i o;have⟨a,h,m⟩:=Tr.set_some undef _ _ _ _ _ h;have o:¬nt<=p:=λw=>by rw[CP w]at o;cases o
   refine ih c a (tm.setIfInBounds p (conc ρ v)) h ?_ (λi=>?_) (λx y=>s x (by simp[y]));refine⟨by simpa using d.size,λi g=>?_,λi g=>?_⟩;show _=ξ (conc ρ (a.get undef i));rw[m];have:=d.at_ i g;split;rename_i e;subst e;simp[d.size,g];rename_i e;rw[Gv (λu=>e u.symm)];exact this;show a.get undef i=undef;rw[m,Cv Z];exact d.past i g;show Nb N (a.get undef i);rw[m];split;exact s v eC;exact j i
def QP{reg:Array Oper->Bool}(hE:EnvOk2 X.E X.P){Cl:Cal}(Z0:CalOk X Cl)(I:∀c,X.ok c↔xf reg c=φ)
  (hD:∀(C:Ctx) ρ0 h0 w0,C.E=X.E->CalOk X C.C->MQ X C ρ0 h0 w0 reg)
  {h h':Hp}(i:vv X.E Cl L l args h n=ξ (v,h',n',W))(k:Nat)(ρ:Ren)(w:World)(hs:Sim X ρ h w)(hn:Kq (3*n) h)(ha:∀x∈args,Nb (3*n) x):
  ∃f K assign body,(ae9 (ρ.b l) (args.map (conc ρ)).toArray).run X.P w=.ok (.round (ρ.b l) f K assign body) w/\
   RoundIn Fx k X.P (ρ.b l) f K assign body w λe s=>∃ρ',e=.returned (conc ρ' v)/\Post X ρ n h w W ρ' v h' n' s:=by
 unfold vv at i;split at i;rename_i t0 nt0 ps0 assign0 body0 d0 hl;split at i;rename_i A;have A:=DC A;obtain⟨o,ho,fn,K,rfl,ai,a8,a9⟩:=hs.blk _ _ hl;have u:=hn _ _ hl;have⟨t1,i,ah,ag⟩:=V1 ps0 args t0 K i ai u.2.1 ha;split at i;rename_i s1 hex1;split at i;rename_i t nt ps assign body d hl1;have⟨t2,i,a3⟩:=Tr.set_some θ _ _ _ _ _ i;split at i;rename_i x s2 hex2;split at i;rename_i r' p' t' nt' ps' as' bd' d' hl2;have ae:KN X nt0 n ρ h w {t:=t1,h:=h,n:=n,w:=[]} {tmps:=(ps0.zip (args.map (conc ρ))).foldl (λtmps (q:Tmp×ψ)=>tmps.setIfInBounds q.1 q.2) K,defers:=[]} w:=
        ⟨ρ,[],ah,ag,Post.refl hs hn Nb.undef,ω,Ix,λk hk=>Cu hk CO⟩
 refine⟨fn,(ps0.zip (args.map (conc ρ))).foldl (λtmps (q:Tmp×ψ)=>tmps.setIfInBounds q.1 q.2) K,assign0,body0,?_,roundIn_of_wpIn trivial ?_⟩;rw[run_yield ho (by simp[A])];congr 2;simp[<-JZ];refine qx hE ω Z0 I (hD _ _ _ _ ω Z0) assign0 ((I _).1 a8) _ s1 .normal hex1 (ξ (ρ.b l)) k _ w _ (λe=>by cases e) ae (λ_ _ _ h=>h) λa1 w1 R=>?_;have⟨ρ1,M1,ad,a7,J,a5,a6,af⟩:=R;obtain⟨o1,a4,M,V,rfl,ac,aa,ab⟩:=J.sim.blk _ _ hl1;have a0:ρ1.b l=ρ.b l:=(J.agr l u.1).1;have Z4:=J.put u.1 (by rw[hl];rfl) hl1 a3 ⟨M,V,ω,ac,aa,ab⟩ (J.nb _ _ hl1).2;rw[a0]at a4 Z4;refine⟨_,run_beginRound a4 ω,?_⟩;have R:KN X nt0 n ρ h w {s1 with h:=t2,w:=l::s1.w} a1 (w1.putObj (ρ.b l) (.loop {state:=.busy,pending:=θ,fn:=M,tmps:=V,params:=ps.toArray,assign:=assign,body:=body,defers:=ρ1.b d})):=(by refine⟨ρ1,M1,ad,a7,Z4,a5,a6,λj hj=>?_⟩;have⟨j1,j2,j3⟩:=af j hj;refine⟨?_,j2,λc T=>?_⟩;rw[Fs (λe=>j3 l (by rw[hl1];rfl) (by rw[a0];first|exact e|exact e.symm))];exact j1;apply j3;have T:(Hp.at t2 c).isSome:=T;rw[show Hp.at t2 c=_ from a3 c]at T;split at T;rename_i e;subst e;rw[hl1];rfl;exact T);have hw:∀(hQ:∀a' s,KN X nt0 n ρ h w s2 a' s->roundPost X.P (ρ.b l) (λe s=>∃ρ',e=.returned (conc ρ' v)/\Post X ρ n h w W ρ' v h' n' s) (exOf x) a' s),
         body0.wpIn (Wd (ξ (ρ.b l))) k X.P (roundPost X.P (ρ.b l) λe s=>∃ρ',e=.returned (conc ρ' v)/\Post X ρ n h w W ρ' v h' n' s) a1 (w1.putObj (ρ.b l) (.loop {state:=.busy,pending:=θ,fn:=M,tmps:=V,params:=ps.toArray,assign:=assign,body:=body,defers:=ρ1.b d})):=λhQ=>by
        refine wpIn_mono (Q:=λe a s=>(∀g,e≠.goto g)/\roundPost X.P (ρ.b l) (λe s=>∃ρ',e=.returned (conc ρ' v)/\Post X ρ n h w W ρ' v h' n' s) e a s) ?_ λ_ _ _ hq=>hq.2;exact qx hE ω Z0 I (hD _ _ _ _ ω Z0) body0 ((I _).1 a9) _ s2 x hex2 (ξ (ρ.b l)) k _ _ _ (λe=>by cases e) R (λg _ _ hq=>hq.1 g ω) λa2 w2 S=>⟨λg=>by cases x<;>simp[exOf],hQ a2 w2 S⟩
 refine hw λa2 w2 S=>?_;have⟨ρ2,M2,am,al,m,aj,ak,an⟩:=S;obtain⟨o2,H,Z1,Z3,rfl,F,B,D⟩:=m.sim.blk _ _ hl2;have G:ρ2.b l=ρ.b l:=(m.agr l u.1).1;rw[G]at H;cases x with
 |normal=>
  have⟨t3,i,y⟩:=Tr.set_some θ _ _ _ _ _ i;simp at i;obtain⟨rfl,rfl,rfl,rfl⟩:=i;have p:=(m.wv (v':=U φ) Nb.bool).put u.1 (by rw[hl];rfl) hl2 y ⟨Z1,Z3,ω,F,B,D⟩ (m.nb _ _ hl2).2;rw[G]at p;exact⟨_,_,run_endRound θ H,ρ2,eC,p⟩
 |ret=>
  have⟨t3,i,y⟩:=Tr.set_some θ _ _ _ _ _ i;simp at i;obtain⟨rfl,rfl,rfl,rfl⟩:=i;have p:=(m.wv (v':=U χ) Nb.bool).put u.1 (by rw[hl];rfl) hl2 y ⟨Z1,Z3,ω,F,B,D⟩ (m.nb _ _ hl2).2;rw[G]at p;exact⟨_,_,run_endRound (ξ .ret) H,ρ2,eC,p⟩
 |exit id=>
  have⟨t3,i,y⟩:=Tr.set_some θ _ _ _ _ _ i;simp at i;obtain⟨rfl,rfl,rfl,rfl⟩:=i;have p:=(m.wv (v':=U χ) Nb.bool).put u.1 (by rw[hl];rfl) hl2 y ⟨Z1,Z3,ω,F,B,D⟩ (m.nb _ _ hl2).2;rw[G]at p;exact⟨_,_,run_endRound (ξ (.exit id)) H,ρ2,eC,p⟩
 cases i;cases i;cases i;cases i;cases i;cases i
def V2{reg:Array Oper->Bool}(p:EnvOk2 X.E X.P)(L:Nat)(e:∀c,X.ok c↔xf reg c=φ)(q:∀f fn c,X.E.fn f=ξ fn->fn.body=ξ c->xf reg c=φ)
  (o:∀(C:Ctx) ρ0 h0 w0,C.E=X.E->CalOk X C.C->MQ X C ρ0 h0 w0 reg):∀d,CalOk X (calN X.E L d):=by
 intro d;induction d with
 |zero=>exact⟨λf args h n v g n' W a=>tp,λl args h n v g n' W a=>tp⟩
 |succ d ih=>exact⟨λf args h n v g n' W a k ρ w m j i=>bE p ih e q o a k ρ w m j i,λl args h n v g n' W a k ρ w m j i=>QP p ih e o a k ρ w m j i⟩
end
end
section
variable{ρ ρ':Ren}
section
variable{E:Env}
theorem jT{l:Array (Nat×Operand)}(h:∀x∈(l.toList.map (·.2)).toArray,g x=g' x):LH g l=LH g' l:=by grind [LH,D5]
theorem fO{o:Op}(h:∀x∈o.operands,g x=g' x):yy E o g=yy E o g':=by
 cases o with
 |build t l=>simp only[yy];rw[jT (by simpa [FL]using h)]
 |makeFunc f a b=>
  simp only[FL,Array.mem_append]at h;have d:a.map g=a.map g':=JA λx i=>h x (.inl i);have e:b.map g=b.map g':=JA λx i=>h x (.inr i);cases f<;>simp[yy,d,e]
 |slice t x lo hi m=>
  simp only[FL]at h;have d:=h x eC;have e:lo.map g=lo.map g':=by cases lo<;>simp;exact h _ eC
  have j:hi.map g=hi.map g':=by cases hi<;>simp;exact h _ eC
  have p:m.map g=m.map g':=by cases m<;>simp;exact h _ eC
  cases m<;>cases lo<;>cases hi<;>simp at e j p<;>simp[yy,d,e,j,p]
 |call c=>
  simp only[FL,ak6]at h;have d:c.args.toList.map g=c.args.toList.map g':=D5 λx i=>h x aD;simp only[yy,d]
 |_=>first|rfl|(simp[FL]at h;simp[yy,h])
theorem V3{o:Op}(h:∀x∈o.operands,g x=g' x):Kl E o g=Kl E o g':=by
 cases o with
 |buildSlice t n l=>simp only[Kl];rw[jT (by simpa [FL]using h)]
 |_=>first|rfl|(simp[FL]at h;simp[Kl,h])
def uz{o:Op}{h h':Hp}(d:∀x∈o.operands,g x=g' x)(c:uA E o g h=ξ (v,b))(hb:h'.at b=h.at b):uA E o g' h'=ξ (v,b):=by
 cases o with
 |load t a=>
  simp[FL]at d;unfold uA at c⊢;simp only at c⊢;rw[<-d];split at c;rename_i ad ha;split at c;rename_i u hu;simp at c;obtain⟨rfl,rfl⟩:=c;have:oN E t h' ad=oN E t h ad:=(by unfold oN md;rw[hb]);rw[this,hu];cases c;cases c
 |_=>cases c
def V4{o:Op}{h:Hp}(d:∀x∈o.operands,g x=g' x):effE E o g h n=effE E o g' h n:=by
 cases o with
 |store t a x=>simp[FL]at d;simp[effE,d]
 |call c=>
  simp only[FL,ak6]at d;have e:c.args.toList.map g=c.args.toList.map g':=D5 λx i=>d x aD;simp only[effE,e];unfold qH;split;rfl;rfl;rename_i f hf;rw[d f (by rw[hf];simp)];rfl
 |_=>rfl
def only(o:Oper)(g:Operand->ψ):Operand->ψ:=λx=>open Classical in if x∈o.op.operands then g x else undef
theorem oF(h:x∈o.op.operands):g x=only o g x:=by simp[only,h]
def oE(h:∀x∈o.op.operands,Nb m (g x))(x:Operand):Nb m (only o g x):=by unfold only;split;exact h x gY;exact Nb.undef
def vk(c:yh o=φ){a:Act}(h:∀x∈o.op.operands,a.eval x=conc ρ (g x)):execOp a.eval o=execOp (λx=>conc ρ (only o g x)) o:=by unfold yh at c;simp at c;refine execOp_congr o (λf b e=>?_) (λx d=>?_);rw[e]at c;simp at c;rw[h x d,oF (g:=g) d]
def QQ(j:∀e sz bt z,E.inf e=ξ (sz,bt,z)->closed z=φ){o:Op}{m:Mk}(hm:Kl E o g=ξ m):∀v∈m.c,(∀ρ,conc ρ v=v)\/∃x∈o.operands,v∈zn (g x):=by
 intro v f;cases o with
 |alloc e=>
  simp only[Kl]at hm;split at hm;rename_i hz;simp at hm;subst hm;exact .inl λρ=>vW (j _ _ _ _ hz) ρ v f;cases hm
 |box e x=>
  simp only[Kl]at hm;simp at hm;subst hm;exact .inr ⟨x,by simp[FL],f⟩
 |buildSlice t len l=>
  simp only[Kl]at hm;unfold O9 at hm;split at hm;split at hm;rename_i hz;split at hm;split at hm;rename_i cs hcs;simp at hm;subst hm;obtain i|⟨p,s,i⟩:=iS hcs v f;exact .inl λρ=>vW (j _ _ _ _ hz) ρ v (qg i);simp[LH]at s;obtain⟨a,b,q,rfl⟩:=s;exact .inr ⟨b,by simp[FL];exact⟨a,by simpa using q⟩,i⟩;cases hm;cases hm;cases hm;cases hm
 |makeSlice t l c=>
  simp only[Kl]at hm;unfold tn at hm;split at hm;split at hm;rename_i hz;split at hm;simp at hm;subst hm;exact .inl λρ=>vW (j _ _ _ _ hz) ρ v (qg f);cases hm;cases hm;cases hm
 |convert t d x=>
  simp only[Kl]at hm;unfold vI at hm;split at hm;split at hm;simp at hm;subst hm;simp at f;obtain⟨b,_,rfl⟩:=f;exact .inl λρ=>by simp
  cases hm;cases hm
 |_=>cases hm
end
def Tr.single(d v:α):∀b:Nat,∃t:Tr α,∀c,Tr.get d t c=if c=b then v else d:=by
 intro b;induction b using Gf with
 |ind b ih=>
  cases b with
  |zero=>
   refine⟨.nd .lf v .lf,λc=>?_⟩;cases c with
   |zero=>rfl
   |succ c=>rw[Tr.get_succ];simp[Tr.get_lf]
  |succ b=>
   have⟨t,a⟩:=ih (b/2) Z;by_cases hb:b%2=0;refine⟨.nd t d .lf,λc=>?_⟩;cases c with
   |zero=>rw[Tr.get_zero];simp
   |succ c=>
    rw[Tr.get_succ,a,Tr.get_lf];by_cases hc:c%2=0;by_cases e:c=b;subst e;simp[hc];have:¬c/2=b/2:=Z;simp[hc,e,this];have:¬c=b:=by rintro rfl;exact hc hb
    simp[hc,this]
   refine⟨.nd .lf d t,λc=>?_⟩;cases c with
   |zero=>rw[Tr.get_zero];simp
   |succ c=>
    rw[Tr.get_succ,a,Tr.get_lf];by_cases hc:c%2=0;have:¬c=b:=by rintro rfl;exact hb hc
    simp[hc,this];by_cases e:c=b;subst e;simp[hc];have:¬c/2=b/2:=Z;simp[hc,e,this]
section
variable{X:Rel}{ρ0:Ren}{h0:Hp}
def Post.agr2{h:Hp}{w:World}(p:Post X ρ0 n0 h0 w0 W ρ v h n w)(a:Kv (3*n) ρ ρ'):Post X ρ0 n0 h0 w0 W ρ' v h n w:=by have e:∀c,(h.at c).isSome->c<3*n:=λc u=>(by have⟨x,B⟩:=Do.1 u;exact(p.nb c x B).1);refine⟨p.agr.trans a (by have:=p.le;omega),p.le,⟨λb x f=>?_,λb l d j s=>?_⟩,p.nb,p.val,p.wlt,p.wmem,p.fr,p.size,p.os,p.tape,p.out,λb f d=>?_,p.old⟩;have⟨o,y,A⟩:=p.sim.blk b x f;have⟨i,q⟩:=p.nb b x f;exact⟨o,by rw[(a b i).1];exact y,A.agr q i a⟩;rw[(a b (e b d)).1,(a l (e l j)).1]at s;exact p.sim.inj b l d j s;rw[(a b (e b d)).1];exact p.new b f d
def Post.add{h h':Hp}{w:World}{y:Blk}{o:Obj}(p:Post X ρ0 n0 h0 w0 W ρ v h n w)(hb:3*n<=b)(A:b<3*(n+1))(j:∀c,h'.at c=if c=b then ξ y else h.at c)
  (F:w.heap[ρ.b b]?=ξ o)(G:pk X ρ b y o)(H:Me (3*n) y)(u:w0.heap.size<=ρ.b b)(q:∀c,(h.at c).isSome->ρ.b c≠ρ.b b):Post X ρ0 n0 h0 w0 W ρ v h' (n+1) w:=by have d:∀c,c≠b->(h'.at c).isSome->(h.at c).isSome:=λc B a=>(by rw[j,Cv B]at a;exact a);refine⟨p.agr,by have:=p.le;omega,⟨λc z a=>?_,λc f l s i=>?_⟩,λc z a=>?_,p.val.mono Z,p.wlt,p.wmem,p.fr,p.size,p.os,p.tape,p.out,λc a l=>?_,λc a D=>?_⟩;rw[j]at a;split at a;rename_i e;injection a with a;subst e a;exact⟨o,F,G⟩;exact p.sim.blk c z a;by_cases e:c=b;by_cases e':f=b;rw[e,e'];rw[e]at i;exact Cu i.symm (q f (d f e' s));by_cases e':f=b;rw[e']at i;exact Cu i (q c (d c e l));exact p.sim.inj c f (d c e l) (d f e' s) i;rw[j]at a;split at a;rename_i e;injection a with a;subst e a;exact⟨A,H.mono Z⟩;have⟨I,C⟩:=p.nb c z a;exact⟨Z,C.mono Z⟩;by_cases e:c=b;rw[e];exact .inl u;exact p.new c a (d c e l);rw[j,Cv (by have:=p.le;omega)];exact p.old c a D
def QR(X:Rel)(s:St)(o:Oper)(v:ψ)(h1:Hp)(n1:Nat)(W:List Nat):Prop:=
 ∀(ro:Option Nat) (kk:Nat) (a:Act) (w:World) (ρ:Ren),(∀x∈o.op.operands,a.eval x=conc ρ (ev s.t x))->(∀x∈o.op.operands,Nb (3*s.n) (ev s.t x))->Sim X ρ s.h w->Kq (3*s.n) s.h->
  ∀(K:Act->World->Prop) (Q:Exit->Act->World->Prop),(∀ρ' w',Post X ρ s.n s.h w W ρ' v h1 n1 w'->K (a.put o.dst (conc ρ' v)) w')->o.wpIn (Wd ro) kk X.P a w K Q
theorem V5{C:Ctx}(V:EnvOk2 X.E X.P)(Z3:C.E=X.E)(T:CalOk X C.C){s:St}(p:yh o=φ){k:St->List Nat->Option β}{r:β}(j:effK C s o k=ξ r):
  ∃v h1 n1 W,done C s o.dst v h1 n1 W (λs=>k s W)=ξ r/\QR X s o v h1 n1 W:=by
 unfold effK at j;rw[Z3,V4 (λx M=>oF M)]at j;split at j
 .rename_i v h1 n1 W hv;refine⟨v,h1,n1,W,j,λN A a w ρ u I L y K Q F=>?_⟩;obtain⟨ρ',B,nx,J,Z4,d⟩:=QL V L y (oE I) hv;exact uj p (by rw[vk p u];exact J) Z4 (F _ _ d)
 .rename_i f args hv;split at j
  .rename_i v h1 n1 W hcall;refine⟨v,h1,n1,W,j,λN A a w ρ u I L y K Q F=>?_⟩;obtain⟨M,q⟩:=bN hv;obtain⟨J,i⟩:=T.call _ _ _ _ _ _ _ _ hcall (A-1) ρ w L y (q _ (oE I));refine⟨λ_ _=>trivial,?_⟩;rw[H5 _ _ _ (λc R=>by unfold yh at p;rw[R]at p;simp at p),vk p u,M w,J];refine⟨λS=>by simp[Wd,Fx]at S,?_⟩;have G:CallsIn (Wd N) (A-1) X.P f (args.map (conc ρ)).toArray w λe B=>∃ρ',e=.returned (conc ρ' v)/\Post X ρ s.n s.h w W ρ' v h1 n1 B:=i;exact Ch
  cases j
 .rename_i l args hv;split at j
  .rename_i v h1 n1 W hcall;refine⟨v,h1,n1,W,j,λN A a w ρ u I L y K Q F=>?_⟩;obtain⟨M,q⟩:=iT hv;obtain⟨f,Z0,D,Z1,J,i⟩:=T.yl _ _ _ _ _ _ _ _ hcall (A-1) ρ w L y (q _ (oE I));refine⟨λ_ _=>trivial,?_⟩;rw[H5 _ _ _ (λc R=>by unfold yh at p;rw[R]at p;simp at p),vk p u,M w,J];refine⟨λS=>by simp[Wd,Fx]at S,?_⟩;have G:RoundIn (Wd N) (A-1) X.P (ρ.b l) f Z0 D Z1 w λe B=>∃ρ',e=.returned (conc ρ' v)/\Post X ρ s.n s.h w W ρ' v h1 n1 B:=i;exact Ch
  cases j
 cases j
theorem uU{C:Ctx}{s:St}{d:Option Tmp}{h':Hp}{k:St->Option β}{r:β}(a:done C s d v h' n' W k=ξ r):
  ∃c,k {t:=c,h:=h',n:=n',w:=addW C.n0 W s.w}=ξ r/\(∀j,nth c j=if d=ξ j then v else nth s.t j)/\∀i,d=ξ i->i<C.nt:=by
 unfold done at a;rw[rJ]at a;unfold putK at a;cases d with
 |some i=>
  simp only at a;split at a;cases a;rename_i hb;have l:i<C.nt:=by grind [F3,CP]
  have⟨c,f,q⟩:=Tr.set_some undef _ _ _ _ _ a;rw[xm]at f;refine⟨c,f,λj=>?_,λj p=>by injection p with p;subst p;exact l⟩;show Tr.get undef c j=_;rw[q];by_cases e:j=i;subst e;simp;rw[Cv e,Cv aD]
 |none=>
  simp only[xm]at a;exact⟨s.t,a,λj=>by simp,λi l=>by cases l⟩
end
end
structure Quiet (d d':Dr):Prop where
 h:d'.s.h=d.s.h
 n:d'.s.n=d.s.n
 w:d'.s.w=d.s.w
 al:d'.al=d.al
 ef:d'.ef=d.ef
inductive Stp (X:Rel) (C:Ctx) (ops:List Oper) (i m:Nat) (o:Oper) (d d':Dr) (v:ψ):Prop
 |skip (hw:vf ops d.s.t o=χ) (hv:v=undef) (hs:Quiet d d') (hl:d'.ld=d.ld)
 |pure (hw:vf ops d.s.t o=φ) (hc2:Kd o.op≠2) (hc3:Kd o.op≠3) (hp:yy C.E o.op (ev d.s.t)=ξ v) (hs:Quiet d d') (hl:d'.ld=d.ld)
 |load (hw:vf ops d.s.t o=φ) (hc:Kd o.op=1) (u b:Nat) (h:Hp) (hr:vQ m d.ef i d.s.h=(u,h)) (hp:uA C.E o.op (ev d.s.t) h=ξ (v,b)) (h1:qS u b d.ef=φ) (h2:qn m b d.al=φ) (hs:Quiet d d') (hl:d'.ld=(i,b)::d.ld)
 |make (hw:vf ops d.s.t o=φ) (hc:Kd o.op=2) (k:Mk) (hm:Kl C.E o.op (ev d.s.t)=ξ k) (hv:v=k.val d.s.n) (hh:∀c,d'.s.h.at c=if c=k.name d.s.n then ξ (.row k.c k.e)else d.s.h.at c)
   (hn:d'.s.n=d.s.n+1) (hW:d'.s.w=d.s.w) (ha:d'.al=(i,k.name d.s.n)::d.al) (hl:d'.ld=d.ld) (he:d'.ef=d.ef)
 |eff (hw:vf ops d.s.t o=φ) (hc:Kd o.op=3) (W:List Nat) (hE:QR X d.s o v d'.s.h d'.s.n W) (h1:gu m d.ef=φ) (h2:xJ m d.al=φ) (h3:ya m W d.ld=φ) (h4:d.s.n<=d'.s.n)
   (hW:d'.s.w=addW C.n0 W d.s.w) (ha:d'.al=d.al) (hl:d'.ld=d.ld) (he:d'.ef=(i,d.s.h,W)::d.ef)
structure StT (C:Ctx)(o:Oper)(d d':Dr)(v:ψ):Prop where
 t:∀j,nth d'.s.t j=if o.dst=ξ j then v else nth d.s.t j
 lt:∀k,o.dst=ξ k->k<C.nt
section
variable{X:Rel}{C:Ctx}
def V6(y:EnvOk2 X.E X.P)(A:C.E=X.E)(w:CalOk X C.C)(B:yh o=φ){d:Dr}(f:vf ops d.s.t o=φ){k:Dr->Option β}{r:β}(a:Nv C i m o d k=ξ r):
  ∃d' v,k d'=ξ r/\Stp X C ops i m o d d' v/\StT C o d d' v:=by unfold Nv at a;split at a;rename_i hc;generalize hr:vQ m d.ef i d.s.h=uh at a;have⟨u,h⟩:=uh;simp only at a;split at a;rename_i v b hl;split at a;rename_i hok;simp only[DI]at hok;have⟨p,a,e,c⟩:=uU a;exact⟨_,v,a,.load f hc u b h hr hl hok.1 hok.2 ⟨ω,ω,ω,ω,ω⟩ ω,⟨e,c⟩⟩;cases a;cases a;rename_i hc;split at a;rename_i mk hm;unfold Mc at a;rw[xZ]at a;have⟨q,a,l⟩:=Tr.set_some θ _ _ _ _ _ a;have⟨p,a,e,c⟩:=uU a;exact⟨_,_,a,.make f hc mk hm ω l ω ω ω ω ω,⟨e,c⟩⟩;cases a;rename_i hc;split at a;rename_i hok;simp only[DI]at hok;have⟨v,q,D,W,a,g⟩:=V5 y A w B a;have⟨p,a,e,c⟩:=uU a;simp only at a;split at a;rename_i hok2;simp only[DI]at hok2;exact⟨_,v,a,.eff f hc W g hok.1 hok.2 hok2.1 (Da hok2.2) ω ω ω ω,⟨e,c⟩⟩;cases a;cases a;rename_i q h2 h3;split at a;rename_i v hp;have⟨p,a,e,c⟩:=uU a;exact⟨_,v,a,.pure f h2 h3 hp ⟨ω,ω,ω,ω,ω⟩ ω,⟨e,c⟩⟩;cases a
theorem V7(K:EnvOk2 X.E X.P)(L:C.E=X.E)(J:CalOk X C.C):∀(l:List Oper) (ms:List Nat) (i:Nat) (d:Dr) (s':St),(∀o∈l,yh o=φ)->wp C ops l ms i d=ξ s'->
  ∃(D:Nat->Dr) (V:Nat->ψ),D 0=d/\(D (O l)).s=s'/\∀j (c:j<O l),∃m,ms[j]?=ξ m/\Stp X C ops (i+j) m l[j] (D j) (D (j+1)) (V j)/\StT C l[j] (D j) (D (j+1)) (V j):=by
 intro l;induction l with
 |nil=>
  intro ms i d s' _ h;unfold wp at h;injection h with h
  exact⟨λ_=>d,λ_=>undef,rfl,h,λj c=>by simp at c⟩
 |cons o l ih=>
  intro ms i d s' y h;cases ms with
  |nil=>cases h
  |cons m ms=>
   have B:∃a v,wp C ops l ms (i+1) a=ξ s'/\Stp X C ops i m o d a v/\StT C o d a v:=by
    unfold wp at h;split at h
    .rename_i hw;exact V6 K L J (y o eC) hw h
    rename_i hw;have⟨R,f,N,p⟩:=uU h;exact⟨_,undef,f,.skip hw rfl ⟨rfl,rfl,rfl,rfl,rfl⟩ rfl,⟨N,p⟩⟩
   have⟨a,v,f,F,G⟩:=B;have⟨D,V,e,g,A⟩:=ih ms (i+1) a s' (λq M=>y q (by simp[M])) f;refine⟨fun|0=>d|j+1=>D j,fun|0=>v|j+1=>V j,rfl,g,λj c=>?_⟩;cases j with
   |zero=>exact⟨m,rfl,by simpa [e]using F,by simpa [e]using G⟩
   |succ j=>
    have⟨Z1,w,H,I⟩:=A j (by simpa using c);refine⟨Z1,by simpa using w,?_,by simpa using I⟩;have:i+(j+1)=i+1+j:=Z;rw[this];simpa using H
end
def bc:∀{W:List Nat},memN b W=χ->b∉W:=by
 intro W;induction W with
 |nil=>intro _ h;cases h
 |cons c W ih=>
  intro h a;unfold memN at h;split at h;cases h;rename_i hc;obtain rfl|a:=De.1 a;exact GJ hc rfl;exact ih h a
def fQ:∀{l:List (Nat×Nat)},ya m W l=φ->∀i b,(i,b)∈l->m.testBit i=φ\/b∉W:=by
 intro l;induction l with
 |nil=>intro _ i b h;cases h
 |cons p l ih=>
  intro h i b a;have⟨j,c⟩:=p;unfold ya at h;split at h;rename_i hc;obtain e|a:=De.1 a;injection e with e1 e2;subst e1 e2;simp only[Hu,Fa]at hc;exact hc.imp id bc;exact ih h i b a;cases h
def V8:∀{l:List (Nat×Nat)},qn m b l=φ->∀j c,(j,c)∈l->m.testBit j=φ\/b≠c:=by
 intro l;induction l with
 |nil=>intro _ i b h;cases h
 |cons p l ih=>
  intro h i c a;have⟨j,d⟩:=p;unfold qn at h;split at h;rename_i hc;obtain e|a:=De.1 a;injection e with e1 e2;subst e1 e2;simp only[Hu,Fa]at hc;exact hc.imp id GJ;exact ih h i c a;cases h
def V9:∀{l:List (Nat×Hp×List Nat)},qS u b l=φ->∀e g W,(e,g,W)∈l->u<=e->b∉W:=by
 intro l;induction l with
 |nil=>intro _ e g W h;cases h
 |cons p l ih=>
  intro h e g W c d;have⟨s,v,f⟩:=p;unfold qS at h;split at h;rename_i a;obtain q|c:=De.1 c;injection q with e1 q;injection q with e2 e3;subst e1 e2 e3;simp only[Hu,Fa]at a;obtain a|a:=a;exact Cu (Da a) Z;exact bc a;exact ih h e g W c d;cases h
def fK:∀(l:List (Nat×Hp×List Nat)) (u0:Nat) (g0:Hp) (u:Nat) (g:Hp),vQ m l u0 g0=(u,g)->l.Pairwise (λx y=>y.1<x.1)->
  (∀x∈l,x.1<u->m.testBit x.1=φ)/\((u=u0/\g=g0)\/∃W,(u,g,W)∈l):=by
 intro l;induction l with
 |nil=>
  intro u0 g0 u g h _;unfold vQ at h;injection h with q f;exact⟨λx a=>Cu a CO,.inl ⟨q.symm,f.symm⟩⟩
 |cons p l ih=>
  intro u0 g0 u g h B;have⟨e,A,W⟩:=p;have⟨w,v⟩:=J1.1 B;unfold vQ at h;split at h;rename_i hb;have⟨q,f⟩:=ih u0 g0 u g h v;refine⟨λx a d=>?_,f.imp id λ⟨s,c⟩=>⟨s,by simp[c]⟩⟩;obtain rfl|a:=De.1 a;exact hb;exact q x a d;have⟨q,f⟩:=ih e A u g h v;refine⟨λx a d=>?_,.inr ?_⟩;obtain rfl|a:=De.1 a;exfalso;obtain⟨rfl,_⟩|⟨s,c⟩:=f;exact H7 _ d;have:=w _ c;simp only at this d;omega;exact q x a d;obtain⟨rfl,rfl⟩|⟨s,c⟩:=f;exact⟨W,eC⟩;exact⟨s,by simp[c]⟩
def Wa:∀{l:List (Nat×Nat)},xJ m l=φ->∀j c,(j,c)∈l->m.testBit j=φ:=by
 intro l;induction l with
 |nil=>intro _ i b h;cases h
 |cons p l ih=>
  intro h i c a;have⟨j,d⟩:=p;unfold xJ at h;split at h;rename_i hc;obtain e|a:=De.1 a;injection e with e1 e2;subst e1 e2;exact hc;exact ih h i c a;cases h
def Wb:∀{l:List (Nat×Hp×List Nat)},gu m l=φ->∀e x,(e,x)∈l->m.testBit e=φ:=by
 intro l;induction l with
 |nil=>intro _ e x h;cases h
 |cons p l ih=>
  intro h i c a;have⟨j,d⟩:=p;unfold gu at h;split at h;rename_i hc;obtain e|a:=De.1 a;injection e with e1 e2;subst e1 e2;exact hc;exact ih h i c a;cases h
def iB:∀(l:List Oper) (acc:List Nat) (i:Nat),i<O acc->(xA l acc)[i]?=acc[i]?:=by
 intro l;induction l with
 |nil=>intro acc i _;rfl
 |cons o l ih=>
  intro acc i a;unfold xA;rw[ih _ i eP,DW a]
def Wc{c:List Nat}:∀(a:List Edge) (s:Nat),(a.foldl (λs e=>match Ez .any e with|true=>s|||2^e.on|||c.getD e.on 0|false=>s) s).testBit j=φ->
  s.testBit j=φ\/∃e∈a,Ez .any e=φ/\(e.on=j\/(c.getD e.on 0).testBit j=φ):=by
 intro a;induction a with
 |nil=>intro s h;exact .inl h
 |cons e a ih=>
  intro s h;rw[Ig]at h;obtain h|⟨f,d,g,l⟩:=ih _ h;split at h;rename_i hb;simp only[Nat.testBit_or,Hu,Nat.testBit_two_pow,decide_eq_true_eq]at h;rcases h with(h|h)|h;exact .inl h;exact .inr ⟨e,eC,hb,.inl h⟩;exact .inr ⟨e,eC,hb,.inr h⟩;exact .inl h;exact .inr ⟨f,by simp[d],g,l⟩
theorem We:∀(l:List Oper) (acc:List Nat) (i m j:Nat),O acc<=i->(xA l acc)[i]?=ξ m->m.testBit j=φ->
  ∃o,l[i-O acc]?=ξ o/\∃e∈o.after,Ez .any e=φ/\(e.on=j\/(e.on<i/\∃m',(xA l acc)[e.on]?=ξ m'/\m'.testBit j=φ)):=by
 intro l;induction l with
 |nil=>
  intro acc i m j s a;have:(xA [] acc)[i]?=θ:=List.getElem?_eq_none s;rw[this]at a;cases a
 |cons o l ih=>
  intro acc i m j s a v;unfold xA at a;by_cases g:i=O acc;subst g;rw[iB _ _ _ eC,List.getElem?_append_right Cy,Nat.sub_self,List.getElem?_cons_zero]at a;refine⟨o,eC,?_⟩;injection a with a;subst a;have:=Wc o.after.toList 0 v;obtain h|⟨e,g,f,d⟩:=this;simp at h;refine⟨e,by simpa using g,f,d.imp id λd=>?_⟩;have c:e.on<O acc:=by grind
  refine⟨c,acc[e.on],?_,?_⟩;rw[xA,iB _ _ _ eP,DW c,CD c];simpa [Iu,c]using d;have⟨q,w,e,p,f,d⟩:=ih _ i m j eP a v;refine⟨q,?_,e,p,f,d⟩;have:i-O acc=(i-(O acc+1))+1:=Z;rw[this];simpa using w
def Pd(k:Nat):Operand->Bool
 | .tmp t=>DK t k
 |_=>χ
def ul(ops:List Oper)(o:Oper)(k:Nat):Bool:=
 (match o.dst with|some d=>DK d k|none=>χ)||
 (o.op.operands.toList.any (Pd k)||
 (match o.guard with|some (j,_)=>(match ops[j]? with|some g=>(match g.dst with|some d=>DK d k|none=>χ)|none=>χ)|none=>χ))
def bP:List Oper->Nat->Bool
 |[],_=>φ
 |o::r,i=>o.after.toList.all (λe=> !Region.binds .any e||HI e.on i)&&bP r (i+1)
def pairOk(ops:List Oper)(ms:List Nat)(i k:Nat):List Oper->Nat->Bool
 |[],_=>φ
 |o::r,j=>(DK i j||(!ul ops o k||(match HI i j with|true=>(ms.getD j 0).testBit i|false=>(ms.getD i 0).testBit j)))&&pairOk ops ms i k r (j+1)
def N6(ops:List Oper)(ms:List Nat):List Oper->Nat->Bool
 |[],_=>φ
 |o::r,i=>(match o.dst with|some k=>pairOk ops ms i k ops 0|none=>φ)&&N6 ops ms r (i+1)
def regOk(ops:Array Oper):Bool:=bP ops.toList 0&&N6 ops.toList (xA ops.toList []) ops.toList 0
def Wf:∀(l:List Oper) (i:Nat),bP l i=φ->∀j o,l[j]?=ξ o->∀e∈o.after,Ez .any e=φ->e.on<i+j:=by
 intro l;induction l with
 |nil=>intro i _ j o h;simp at h
 |cons q l ih=>
  intro i h j o a e d c;unfold bP at h;simp only[DI,E3]at h;cases j with
  |zero=>
   simp at a;subst a;have:=h.1 e Aq;simp only[c,H3,Bool.false_or]at this;have:=Da this;omega
  |succ j=>
   have:=ih (i+1) h.2 j o (by simpa using a) e d c;omega
def fP{ops:List Oper}{f:List Nat}:∀(l:List Oper) (j0:Nat),pairOk ops f i k l j0=φ->∀j o,l[j]?=ξ o->i≠j0+j->ul ops o k=φ->
  (i<j0+j->(f.getD (j0+j) 0).testBit i=φ)/\(j0+j<i->(f.getD i 0).testBit (j0+j)=φ):=by
 intro l;induction l with
 |nil=>intro j0 _ j o h;simp at h
 |cons q l ih=>
  intro j0 h j o d g m;unfold pairOk at h;simp only[DI,Hu,Fa]at h;cases j with
  |zero=>
   simp at d;subst d;obtain a|a|a:=h.1;exact Cu (DC a) g;rw[m]at a;cases a;refine⟨λc=>?_,λc=>?_⟩;rw[show HI i j0=φ from CP c]at a;exact a;have:HI i j0=χ:=by
    cases hb:HI i j0 with
    |false=>rfl
    |true=>have:=Da hb;simp at c;omega
   rw[this]at a;exact a
  |succ j=>
   have:=ih (j0+1) h.2 j o Aq Z m;have e:j0+1+j=j0+(j+1):=Z;rw[e]at this;exact this
def Wg{ops:List Oper}{d:List Nat}:∀(l:List Oper) (i0:Nat),N6 ops d l i0=φ->∀i o k,l[i]?=ξ o->o.dst=ξ k->pairOk ops d (i0+i) k ops 0=φ:=by
 intro l;induction l with
 |nil=>intro i0 _ i o k h;simp at h
 |cons q l ih=>
  intro i0 h i o k a c;unfold N6 at h;simp only[DI]at h;cases i with
  |zero=>
   simp at a;subst a;rw[c]at h;exact h.1
  |succ i=>
   have:=ih (i0+1) h.2 i o k (by simpa using a) c;have e:i0+1+i=i0+(i+1):=Z;rw[e]at this;exact this
structure Lx (X:Rel)(C:Ctx)(ops:Array Oper)(D:Nat->Dr)(V:Nat->ψ)(M:Nat->Nat):Prop where
 stp:∀i (hi:i<ops.size),Stp X C ops.toList i (M i) ops[i] (D i) (D (i+1)) (V i)
 stt:∀i (hi:i<ops.size),StT C ops[i] (D i) (D (i+1)) (V i)
 ms:∀i,i<ops.size->(xA ops.toList [])[i]?=ξ (M i)
 reg:regOk ops=φ
 cst:∀o∈ops,yh o=φ
 past:∀k,C.nt<=k->nth (D 0).s.t k=undef
 al:(D 0).al=[]
 ld:(D 0).ld=[]
 ef:(D 0).ef=[]
def xw(C:Ctx)(ops:Array Oper)(D:Nat->Dr)(j b:Nat)(c:List ψ)(e:TypeId):Prop:=
 ∃(hj:j<ops.size) (k:Mk),Kd ops[j].op=2/\vf ops.toList (D j).s.t ops[j]=φ/\Kl C.E ops[j].op (ev (D j).s.t)=ξ k/\b=k.name (D j).s.n/\c=k.c/\e=k.e
def KW(ops:Array Oper)(D:Nat->Dr)(j:Nat)(W:List Nat):Prop:=
 ∃(hj:j<ops.size),Kd ops[j].op=3/\vf ops.toList (D j).s.t ops[j]=φ/\(D (j+1)).ef=(j,(D j).s.h,W)::(D j).ef
section
variable{X:Rel}{C:Ctx}{ops:Array Oper}{D:Nat->Dr}{V:Nat->ψ}{M:Nat->Nat}
theorem Lx.mask(L:Lx X C ops D V M)(hi:i<ops.size)(hj:(M i).testBit j=φ):∃e∈ops[i].after,Ez .any e=φ/\(e.on=j\/(e.on<i/\(M e.on).testBit j=φ)):=by
 have⟨o,l,e,g,f,h⟩:=We ops.toList [] i (M i) j eC (L.ms i hi) hj;have:o=ops[i]:=by grind
 subst this;refine⟨e,g,f,h.imp id λ⟨c,m,a,d⟩=>⟨c,?_⟩⟩;rw[L.ms e.on Z]at a;injection a with a;rw[a];exact d
def Lx.down(L:Lx X C ops D V M)(hi:i<ops.size):∀e∈ops[i].after,Ez .any e=φ->e.on<i:=λe c a=>by
 have h:=L.reg;unfold regOk at h;simp only[DI]at h;have:=Wf ops.toList 0 h.1 i ops[i] (by simp[hi]) e c a;omega
def Lx.ord(L:Lx X C ops D V M)(hi:i<ops.size)(hj:j<ops.size)(m:i≠j)(g:ops[i].dst=ξ k)(l:ul ops.toList ops[j] k=φ):
  (i<j->(M j).testBit i=φ)/\(j<i->(M i).testBit j=φ):=by
 have h:=L.reg;unfold regOk at h;simp only[DI]at h;have f:=Wg ops.toList 0 h.2 i ops[i] k (by simp[hi]) g;have a:=fP ops.toList 0 f j ops[j] (by simp[hj]) Z l;have c:(xA ops.toList []).getD j 0=M j:=by simp[Iu,L.ms j hj]
 have d:(xA ops.toList []).getD i 0=M i:=by simp[Iu,L.ms i hi]
 simp only[C9,c,d]at a;exact a
def Lx.nle(L:Lx X C ops D V M)(a:i<=j)(hj:j<=ops.size):(D i).s.n<=(D j).s.n:=by
 induction j with
 |zero=>(have:i=0:=Z);subst this;exact Ej _
 |succ j ih=>
  by_cases e:i=j+1;subst e;exact Ej _;have c:=ih Z Z;have d:(D j).s.n<=(D (j+1)).s.n:=by
   cases L.stp j Z with
   |skip _ _ hs _=>rw[hs.n];exact Ej _
   |pure _ _ _ _ hs _=>rw[hs.n];exact Ej _
   |load _ _ _ _ _ _ _ _ _ hs _=>rw[hs.n];exact Ej _
   |make _ _ _ _ _ _ hn _ _ _ _=>rw[hn];omega
   |eff _ _ _ _ _ _ _ h4 _ _ _ _=>exact h4
  omega
def Lx.past'(L:Lx X C ops D V M)(hi:i<=ops.size)(a:C.nt<=k):nth (D i).s.t k=undef:=by
 induction i with
 |zero=>exact L.past k a
 |succ i ih=>
  have h:=L.stt i Z;rw[h.t,Cv (λe=>Cu (h.lt k e) (aa0.2 a))];exact ih Z
def Lx.sub(L:Lx X C ops D V M)(g:i<=j)(hj:j<=ops.size):(∀x∈(D i).al,x∈(D j).al)/\(∀x∈(D i).ld,x∈(D j).ld)/\∀x∈(D i).ef,x∈(D j).ef:=by
 induction j with
 |zero=>(have:i=0:=Z);subst this;exact⟨λ_ h=>h,λ_ h=>h,λ_ h=>h⟩
 |succ j ih=>
  by_cases e:i=j+1;subst e;exact⟨λ_ h=>h,λ_ h=>h,λ_ h=>h⟩;have⟨a,c,d⟩:=ih Z Z;cases L.stp j Z with
  |skip _ _ hs hl=>rw[hs.al,hl,hs.ef];exact⟨a,c,d⟩
  |pure _ _ _ _ hs hl=>rw[hs.al,hl,hs.ef];exact⟨a,c,d⟩
  |load _ _ _ _ _ _ _ _ _ hs hl=>rw[hs.al,hl,hs.ef];exact⟨a,λx f=>by simp[c x f],d⟩
  |make _ _ _ _ _ _ _ _ ha hl he=>rw[ha,hl,he];exact⟨λx f=>by simp[a x f],c,d⟩
  |eff _ _ _ _ _ _ _ _ _ ha hl he=>rw[ha,hl,he];exact⟨a,c,λx f=>by simp[d x f]⟩
def Lx.efs(L:Lx X C ops D V M)(hj:j<=ops.size):(D j).ef.Pairwise (λx y=>y.1<x.1)/\∀x∈(D j).ef,x.1<j/\x.2.1=(D x.1).s.h/\KW ops D x.1 x.2.2:=by
 induction j with
 |zero=>rw[L.ef];exact⟨ar9,λx a=>Cu a CO⟩
 |succ j ih=>
  have⟨d,f⟩:=ih Z;have c:∀x∈(D j).ef,x.1<j+1/\x.2.1=(D x.1).s.h/\KW ops D x.1 x.2.2:=λx a=>⟨by have:=(f x a).1;omega,(f x a).2⟩;cases L.stp j Z with
  |skip _ _ hs _=>rw[hs.ef];exact⟨d,c⟩
  |pure _ _ _ _ hs _=>rw[hs.ef];exact⟨d,c⟩
  |load _ _ _ _ _ _ _ _ _ hs _=>rw[hs.ef];exact⟨d,c⟩
  |make _ _ _ _ _ _ _ _ _ _ he=>rw[he];exact⟨d,c⟩
  |eff hw hc W _ _ _ _ _ _ _ _ he=>
   refine⟨?_,λx a=>?_⟩;rw[he];exact J1.2 ⟨λy g=>(f y g).1,d⟩;rw[he]at a;obtain rfl|a:=De.1 a;exact⟨eC,ω,Z,hc,hw,he⟩;exact c x a
def Lx.makes(L:Lx X C ops D V M){c:List ψ}(hm:xw C ops D j b c e):3*(D j).s.n<=b/\b<3*((D j).s.n+1)/\b%3≠0/\(D (j+1)).s.n=(D j).s.n+1/\(D (j+1)).s.w=(D j).s.w/\
  (∀q,(D (j+1)).s.h.at q=if q=b then ξ (.row c e)else(D j).s.h.at q)/\(j,b)∈(D (j+1)).al/\∃d:j<ops.size,∃k:Mk,Kl C.E ops[j].op (ev (D j).s.t)=ξ k/\V j=k.val (D j).s.n/\b=k.name (D j).s.n/\c=k.c/\e=k.e:=by
 obtain⟨d,k,a,o,f,rfl,rfl,rfl⟩:=hm;have⟨g,l,m,p⟩:=rG k (D j).s.n;cases L.stp j d with
 |skip hw' _ _ _=>rw[o]at hw';cases hw'
 |pure _ hc2 _ _ _ _=>exact Cu a hc2
 |load _ hc1 _ _ _ _ _ _ _ _ _=>rw[a]at hc1;cases hc1
 |make _ _ k' hm hv hh hn hW ha _ _=>
  rw[f]at hm;injection hm with hm;subst hm;exact⟨l,m,g,hn,hW,hh,by rw[ha];simp,d,k,f,hv,ω,ω,ω⟩
 |eff _ hc3 _ _ _ _ _ _ _ _ _ _=>rw[a]at hc3;cases hc3
end
section
variable{ρ':Ren}
def MR(ops:Array Oper)(In:Nat->Prop)(k q:Nat):Prop:=q<=ops.size/\∀i (hi:i<ops.size),ops[i].dst=ξ k->(In i↔i<q)
structure Core (X:Rel)(C:Ctx)(ops:Array Oper)(D:Nat->Dr)(ρ0:Ren)(h0:Hp)(w0:World)(p:Nat)(In:Nat->Prop)(Ms:List Nat)(a:Act)(w:World)(ρ:Ren):Prop where
 post:Post X ρ0 C.n0 h0 w0 (D p).s.w ρ undef (D p).s.h (D p).s.n w
 made:∀j b c e,xw C ops D j b c e->p<=j->In j->∃o,w.heap[ρ.b b]?=ξ o/\pk X ρ b (.row c e) o/\w0.heap.size<=ρ.b b/\(∀q,((D p).s.h.at q).isSome->ρ.b q≠ρ.b b)/\∀x∈Ms,ρ.b b≠x
 apart:∀j b c e j' b' c' e',xw C ops D j b c e->xw C ops D j' b' c' e'->p<=j->p<=j'->In j->In j'->j≠j'->ρ.b b≠ρ.b b'
 tmp:∀k,k<C.nt->∀q,MR ops In k q->a.tmps[k]?=ξ (conc ρ (nth (D q).s.t k))
 mark:∀x∈Ms,w.heap[x]?=ξ (.deferred (ξ []))/\w0.heap.size<=x/\∀b,((D p).s.h.at b).isSome->ρ.b b≠x
def Ku(C:Ctx)(ops:Array Oper)(D:Nat->Dr)(p:Nat)(In:Nat->Prop)(ρ ρ':Ren):Prop:=
 Kv (3*(D p).s.n) ρ ρ'/\∀j b c e,xw C ops D j b c e->p<=j->In j->ρ'.b b=ρ.b b/\ρ'.x b=ρ.x b
structure J (X:Rel)(C:Ctx)(ops:Array Oper)(D:Nat->Dr)(ρ0:Ren)(h0:Hp)(w0:World)(p:Nat)(In:Nat->Prop)(Ms:List Nat)(a:Act)(w:World)(ρ:Ren):Prop where
 le:p<=ops.size
 eff:∀e W,KW ops D e W->(In e↔e<p)
 mkp:∀j b c e,xw C ops D j b c e->j<p->In j
 cl:∀i (hi:i<ops.size),In i->∀e∈ops[i].after,Ez .any e=φ->In e.on
 size:a.tmps.size=C.nt
 dfr:a.defers=fW Ms
 nd:Ms.Nodup
 nb:∀k q,MR ops In k q->Nb (3*(D q).s.n) (nth (D q).s.t k)
 hnb:∀i,i<=p->Kq (3*(D i).s.n) (D i).s.h
 cnb:∀j b c e,xw C ops D j b c e->In j->∀v∈c,Nb (3*(D j).s.n) v
 old:∀e W,KW ops D e W->e<p->∀b,b<3*(D e).s.n->b∉W->(D (e+1)).s.h.at b=(D e).s.h.at b
 core:∀ρ',Ku C ops D p In ρ ρ'->Core X C ops D ρ0 h0 w0 p In Ms a w ρ'
section
variable{X:Rel}{C:Ctx}{ops:Array Oper}{D:Nat->Dr}{V:Nat->ψ}{M:Nat->Nat}{ρ0 ρ:Ren}{h0:Hp}{p:Nat}{w:World}
def Ku.refl:Ku C ops D p In ρ ρ:=⟨Kv.refl _ _,λ_ _ _ _ _ _ _=>⟨ω,ω⟩⟩
def Lx.maskIn(L:Lx X C ops D V M)(d:∀i (b:i<ops.size),In i->∀e∈ops[i].after,Ez .any e=φ->In e.on):
  ∀i (b:i<ops.size),(∀e∈ops[i].after,Ez .any e=φ->In e.on)->∀j,(M i).testBit j=φ->In j:=by
 intro i;induction i using Gf with
 |ind i ih=>
  intro b m j q;have⟨e,f,c,h⟩:=L.mask b q;obtain rfl|⟨l,g⟩:=h;exact m e f c;exact ih e.on l Z (d e.on Z (m e f c)) j g
def QT(L:Lx X C ops D V M)(I:J X C ops D ρ0 h0 w0 p In Ms a w ρ):∀(d:Nat),p+d<=ops.size->(∀e W,KW ops D e W->p<=e->e<p+d->False)->(∀j b c e,xw C ops D j b c e->p<=j->j<p+d->In j)->
  ∀ρ',Ku C ops D p In ρ ρ'->Post X ρ0 C.n0 h0 w0 (D (p+d)).s.w ρ' undef (D (p+d)).s.h (D (p+d)).s.n w/\∀b,((D (p+d)).s.h.at b).isSome->((D p).s.h.at b).isSome\/∃j c e,xw C ops D j b c e/\p<=j/\j<p+d:=by
 intro d;induction d with
 |zero=>intro _ _ _ ρ' A;exact⟨(I.core ρ' A).post,λb u=>.inl u⟩
 |succ d ih=>
  intro a0 F B ρ' A;have⟨P,R⟩:=ih Z (λe W g m H=>F e W g m Z) (λj b c e g m H=>B j b c e g m Z) ρ' A;have N:=I.core ρ' A;have G:∀b,((D (p+d)).s.h.at b).isSome->((D p).s.h.at b).isSome\/∃j c e,xw C ops D j b c e/\p<=j/\j<p+(d+1):=λb u=>(R b u).imp id λ⟨j,c,e,g,m,H⟩=>⟨j,c,e,g,m,Z⟩;have y:Quiet (D (p+d)) (D (p+d+1))->Post X ρ0 C.n0 h0 w0 (D (p+(d+1))).s.w ρ' undef (D (p+(d+1))).s.h (D (p+(d+1))).s.n w/\∀b,((D (p+(d+1))).s.h.at b).isSome->((D p).s.h.at b).isSome\/∃j c e,xw C ops D j b c e/\p<=j/\j<p+(d+1):=λf=>(by rw[show p+(d+1)=p+d+1 from ω,f.h,f.n,f.w];exact⟨P,G⟩);cases hst:L.stp (p+d) Z with
  |skip _ _ f _=>exact y f
  |pure _ _ _ _ f _=>exact y f
  |load _ _ _ _ _ _ _ _ _ f _=>exact y f
  |make hw hc k hm T hh hn hW ha hl he=>
   have l:xw C ops D (p+d) (k.name (D (p+d)).s.n) k.c k.e:=⟨Z,k,hc,hw,hm,ω,ω,ω⟩;have⟨m1,m2,m3,m4,m5,Z4,m7,_⟩:=L.makes l;have K:=B _ _ _ _ l Z Z;have⟨o,Z3,Z0,S,Z1,_⟩:=N.made _ _ _ _ l Z K;refine⟨?_,λb u=>?_⟩;rw[show p+(d+1)=p+d+1 from ω,hW,hn];refine P.add m1 m2 Z4 Z3 Z0 (λv T=>I.cnb _ _ _ _ l K v T) S λq f=>?_;obtain g|⟨j,c,e,g,m,H⟩:=R q f;exact Z1 q g;exact N.apart _ _ _ _ _ _ _ _ g l m Z (B _ _ _ _ g m Z) K Z;rw[show p+(d+1)=p+d+1 from ω,Z4]at u;split at u;rename_i e;subst e;exact .inr ⟨p+d,k.c,k.e,l,Z,Z⟩;exact G b u
  |eff hw hc W _ _ _ _ _ _ _ _ he=>exact Cu (F (p+d) W ⟨Z,hc,hw,he⟩ Z Z) id
def J.reads(L:Lx X C ops D V M)(c:J X C ops D ρ0 h0 w0 p In Ms a w ρ)(hi:i<ops.size)(b:¬In i)(s:∀e∈ops[i].after,Ez .any e=φ->In e.on)(u:ul ops.toList ops[i] k=φ):MR ops In k i:=by refine⟨Z,λj d q=>?_⟩;by_cases e:j=i;subst e;exact⟨λh=>Cu h b,λh=>Cu h (H7 _)⟩;have⟨l,m⟩:=L.ord d hi e q u;refine⟨λf=>?_,λg=>L.maskIn c.cl i hi s j (l g)⟩;apply F3;intro v;exact b (L.maskIn c.cl j d (c.cl j d f) i (m Z))
def mz{l:List Oper}(h:Operand.tmp k∈o.op.operands):ul l o k=φ:=by unfold ul;have:o.op.operands.toList.any (Pd k)=φ:=List.any_eq_true.2 ⟨.tmp k,by simpa using h,by simp[Pd]⟩;rw[this];simp
def lJ{g:Oper}{b:Bool}(h:o.guard=ξ (j,b))(d:ops[j]?=ξ g)(c:g.dst=ξ k):ul ops.toList o k=φ:=by unfold ul;simp[h,d,c]
def fb{l:List Oper}(h:o.dst=ξ k):ul l o k=φ:=by unfold ul;simp[h]
def J.evals(L:Lx X C ops D V M)(b:J X C ops D ρ0 h0 w0 p In Ms a w ρ)(hi:i<ops.size)(d:¬In i)(q:∀e∈ops[i].after,Ez .any e=φ->In e.on)(m:Ku C ops D p In ρ ρ'):
  ∀x∈ops[i].op.operands,a.eval x=conc ρ' (ev (D i).s.t x):=by
 intro x l;have c:qD x=φ:=(by have:=L.cst ops[i] (G1 hi);unfold yh at this;simp only[DI,Array.all_eq_true_iff_forall_mem]at this;exact this.1 x l);cases x with
 |tmp k=>
  have u:=b.reads L hi d q (mz l);simp only[Iw,ev];by_cases hk:k<C.nt;have:=(b.core ρ' m).tmp k hk i u;simp[this];rw[L.past' Z (aa0.1 hk)];have:a.tmps[k]?=θ:=FU (by rw[b.size];exact aa0.1 hk);simp[this]
 |const v=>simp only[Iw,ev];rw[show closed v=φ from c];exact(yA c).symm
 |global g=>simp[Iw,ev,Ren.addr,ρ'.gl]
 |func f=>simp[Iw,ev,Ren.fn]
def J.evnb(L:Lx X C ops D V M)(b:J X C ops D ρ0 h0 w0 p In Ms a w ρ)(hi:i<ops.size)(c:¬In i)(d:∀e∈ops[i].after,Ez .any e=φ->In e.on):
  ∀x∈ops[i].op.operands,Nb (3*(D i).s.n) (ev (D i).s.t x):=by
 intro x m;cases x with
 |tmp k=>exact b.nb k i (b.reads L hi c d (mz (l:=ops.toList) m))
 |const v=>
  simp only[ev];split;exact Nb.closed gY;exact Nb.undef
 |global g=>exact Nb.global g
 |func f=>intro ρ ρ' _;simp[ev,Ren.fn]
end
end
section
variable{ρ':Ren}{E:Env}
section
variable{X:Rel}{C:Ctx}{ops:Array Oper}{D:Nat->Dr}{V:Nat->ψ}{M:Nat->Nat}{ρ0 ρ:Ren}{h0:Hp}{p:Nat}{w:World}
def J.wanted(L:Lx X C ops D V M)(f:J X C ops D ρ0 h0 w0 p In Ms a w ρ)(hi:i<ops.size)(l:¬In i)(F:∀e∈ops[i].after,Ez .any e=φ->In e.on):
  H6 ops[i] (yielded ops a.tmps)=vf ops.toList (D i).s.t ops[i]:=by
 unfold H6 vf;cases hg:ops[i].guard with
 |none=>rfl
 |some q=>
  have⟨j,b⟩:=q;simp only[HU];unfold yielded;cases hj:ops[j]? with
  |none=>simp
  |some g=>
   simp only[Hh];cases hdst:g.dst with
   |none=>simp
   |some d=>
    have y:=f.reads L hi l F (lJ hg hj hdst);by_cases hlt:d<C.nt;simp only[Hh,(f.core ρ Ku.refl).tmp d hlt i y];cases y:nth (D i).s.t d with
    |bool c=>cases b<;>cases c<;>simp
    |pointer q=>cases q<;>simp
    |slice q _ _=>cases q<;>simp
    |_=>simp[conc]
    have A:a.tmps[d]?=θ:=FU (by rw[f.size];exact GC hlt);have B:=L.past' (i:=i) Z (GC hlt);simp[A,B,undef]
def Lx.keep(L:Lx X C ops D V M):∀(d:Nat),i+d<=ops.size->(∀j (e:j<ops.size),i<=j->j<i+d->ops[j].dst≠ξ k)->nth (D (i+d)).s.t k=nth (D i).s.t k:=by
 intro d;induction d with
 |zero=>intro _ _;rfl
 |succ d ih=>
  intro g c;have h:=L.stt (i+d) Z;rw[show i+(d+1)=i+d+1 from ω,h.t,Cv (c _ Z Z Z)];exact ih Z λj e f l=>c j e f Z
def J.next(L:Lx X C ops D V M)(g:J X C ops D ρ0 h0 w0 p In Ms a w ρ){q:Nat}(hi:i<ops.size)(B:¬In i)(hv:MR ops (λj=>In j\/j=i) k q):
  (ops[i].dst=ξ k/\i<q/\nth (D q).s.t k=V i)\/(ops[i].dst≠ξ k/\MR ops In k q):=by
 by_cases hd:ops[i].dst=ξ k;have y:i<q:=(hv.2 i hi hd).1 (.inr ω);refine .inl ⟨hd,y,?_⟩;obtain⟨d,rfl⟩:∃d,q=i+1+d:=⟨q-(i+1),Z⟩;rw[L.keep d hv.1 λj f G F c=>?_,(L.stt i hi).t,Cw hd];have l:In j:=((hv.2 j f c).2 F).resolve_right Z;have:=(L.ord hi f Z hd (fb c)).1 Z;exact B (L.maskIn g.cl j f (g.cl j f l) i this);refine .inr ⟨hd,hv.1,λj f c=>?_⟩;have A:j≠i:=λe=>by subst e;exact hd c
 have:=hv.2 j f c;exact⟨λh=>this.1 (.inl h),λh=>(this.2 h).resolve_right A⟩
def fM{a:Act}{d:Option Tmp}:(a.put d v).tmps[k]?=if d=ξ k/\k<a.tmps.size then ξ v else a.tmps[k]?:=by
 cases d with
 |none=>simp[am4]
 |some i=>
  simp only[am4];by_cases e:i=k;subst e;by_cases hk:i<a.tmps.size;simp[hk];simp[hk];rw[Gv e,Cv];simp[e]
def kl{a:Act}{d:Option Tmp}:(a.put d v).tmps.size=a.tmps.size:=by cases d<;>simp[am4]
def qk{a:Act}{d:Option Tmp}:(a.put d v).defers=a.defers:=by cases d<;>simp[am4]
def Ku.mono{ρ:Ren}(h:Ku C ops D p (λj=>In j\/j=i) ρ ρ'):Ku C ops D p In ρ ρ':=
 ⟨h.1,λj b c e d f g=>h.2 j b c e d f (.inl g)⟩
def J.quiet(L:Lx X C ops D V M)(d:J X C ops D ρ0 h0 w0 p In Ms a w ρ)(hi:i<ops.size)(I:¬In i)(hr:∀e∈ops[i].after,Ez .any e=φ->In e.on)
  (Z0:∀W,¬KW ops D i W)(a0:∀b c e,¬xw C ops D i b c e){N:ψ}(R:∀ρ',Ku C ops D p In ρ ρ'->N=conc ρ' (V i))(Z3:Nb (3*(D (i+1)).s.n) (V i)):
  J X C ops D ρ0 h0 w0 p (λj=>In j\/j=i) Ms (a.put ops[i].dst N) w ρ:=by
 have F:∀j b c e,xw C ops D j b c e->(In j\/j=i)->In j:=λj b c e g h=>h.resolve_right λl=>by subst l;exact a0 _ _ _ g
 refine⟨d.le,λe W A=>?_,λj b c e g B=>.inl (d.mkp j b c e g B),λj T f e A S=>?_,by rw[kl];exact d.size,by rw[qk];exact d.dfr,d.nd,λk q G=>?_,d.hnb,λj b c e g f=>d.cnb j b c e g (F j b c e g f),d.old,λρ' K=>?_⟩;rw[<-d.eff e W A];refine⟨λh=>h.resolve_right λl=>?_,.inl⟩;subst l;exact Z0 W A;obtain f|rfl:=f;exact .inl (d.cl j T f e A S);exact .inl (hr e A S);obtain⟨_,a2,h⟩|⟨_,h⟩:=d.next L hi I G;rw[h];exact Z3.mono (by have:=L.nle (i:=i+1) Z G.1;omega);exact d.nb k q h;have y:=d.core ρ' K.mono;refine⟨y.post,λj b c e g B f=>y.made j b c e g B (F j b c e g f),λj b c e j' b' c' l g H B a1 f P=>y.apart j b c e j' b' c' l g H B a1 (F j b c e g f) (F _ _ _ _ H P),λk Z4 q G=>?_,y.mark⟩;rw[fM];obtain⟨Z1,_,h⟩|⟨Z1,h⟩:=d.next L hi I G;rw[Cw ⟨Z1,by rw[d.size];exact Z4⟩,h,R ρ' K.mono];rw[Cv (λh=>Z1 h.1)];exact y.tmp k Z4 q h
def fU(h:∀c:i<ops.size,Kd ops[i].op=3->vf ops.toList (D i).s.t ops[i]=φ->False):∀W,¬KW ops D i W:=λW⟨c,d,e,_⟩=>h c d e
def oH(h:∀d:i<ops.size,Kd ops[i].op=2->vf ops.toList (D i).s.t ops[i]=φ->False):∀b c e,¬xw C ops D i b c e:=λ_ _ _⟨d,_,f,g,_⟩=>h d f g
def Lx.hist(L:Lx X C ops D V M){p:Nat}:∀(d:Nat),p+d<=ops.size->(∀e W,KW ops D e W->p<=e->e<p+d->False)->
  ∀b x,(D (p+d)).s.h.at b=ξ x->(D p).s.h.at b=ξ x\/∃j c e,xw C ops D j b c e/\p<=j/\j<p+d/\x=.row c e:=by
 intro d;induction d with
 |zero=>intro _ _ b x f;exact .inl f
 |succ d ih=>
  intro G q b x f;have l:=ih Z (λe W y A B=>q e W y A Z) b x;have g:((D p).s.h.at b=ξ x\/∃j c e,xw C ops D j b c e/\p<=j/\j<p+d/\x=.row c e)->((D p).s.h.at b=ξ x\/∃j c e,xw C ops D j b c e/\p<=j/\j<p+(d+1)/\x=.row c e):=
   λh=>h.imp id λ⟨j,c,e,y,A,B,F⟩=>⟨j,c,e,y,A,Z,F⟩
  rw[show p+(d+1)=p+d+1 from rfl]at f;cases L.stp (p+d) Z with
  |skip _ _ hq _=>rw[hq.h]at f;exact g (l f)
  |pure _ _ _ _ hq _=>rw[hq.h]at f;exact g (l f)
  |load _ _ _ _ _ _ _ _ _ hq _=>rw[hq.h]at f;exact g (l f)
  |make hw hc k hm hv hh hn hW ha hl he=>
   rw[hh]at f;split at f;rename_i e;injection f with f;exact .inr ⟨p+d,k.c,k.e,⟨Z,k,hc,hw,hm,e,ω,ω⟩,Z,Z,f.symm⟩;exact g (l f)
  |eff hw hc W _ _ _ _ _ _ _ _ he=>exact Cu (q (p+d) W ⟨Z,hc,hw,he⟩ Z Z) id
def J.stays(L:Lx X C ops D V M)(g:J X C ops D ρ0 h0 w0 p In Ms a w ρ):∀(d:Nat),u+d<=p->b<3*(D u).s.n->(∀e W,KW ops D e W->u<=e->e<u+d->b∉W)->(D (u+d)).s.h.at b=(D u).s.h.at b:=by
 intro d;induction d with
 |zero=>intro _ _ _;rfl
 |succ d ih=>
  intro F A f;have B:=g.le;have c:=ih Z A (λe W q y G=>f e W q y Z);have H:=L.nle (i:=u) (j:=u+d) Z Z;rw[show u+(d+1)=u+d+1 from rfl];cases L.stp (u+d) Z with
  |skip _ _ hq _=>rw[hq.h];exact c
  |pure _ _ _ _ hq _=>rw[hq.h];exact c
  |load _ _ _ _ _ _ _ _ _ hq _=>rw[hq.h];exact c
  |make hw hc k hm hv hh hn' hW ha hl he=>
   rw[hh,Cv (by have:=(rG k (D (u+d)).s.n).2.1;omega)];exact c
  |eff hw hc W _ _ _ _ _ _ _ _ he=>
   have l:KW ops D (u+d) W:=⟨Z,hc,hw,he⟩;rw[g.old _ W l Z b Z (f _ W l Z Z)];exact c
def rH(e:EnvOk2 X.E X.P){g:Operand->ψ}{h:Hp}(c:uA X.E o.op g h=ξ (v,b)){ρ:Ren}{w:World}(l:Sim X ρ h w)(f:Kq m h):
  (execOp (λx=>conc ρ (g x)) o).run X.P w=.ok (.value (conc ρ v)) w/\Nb m v:=by unfold uA at c;split at c;rename_i t a ho;split at c;rename_i ad ha;split at c;rename_i u hu;simp at c;obtain⟨rfl,rfl⟩:=c;have⟨j,d,_⟩:=oM e.toEnvOk l f hu;refine⟨?_,d⟩;unfold execOp;simp[ho,ha,am2,G4,j];cases c;cases c;cases c
def Wh{g:Operand->ψ}{h:Hp}(c:uA E o.op g h=ξ (v,b)):∃x,h.at b=ξ x:=by unfold uA at c;split at c;split at c;split at c;rename_i u hu;simp at c;obtain⟨rfl,rfl⟩:=c;unfold oN at hu;split at hu;simp at hu;have⟨f,d,_⟩:=hu;have⟨_,x,e,_⟩:=xP d;exact⟨x,e⟩;split at hu;rename_i d;have⟨_,x,e,_⟩:=xP d;exact⟨x,e⟩;cases hu;cases hu;cases c;cases c;cases c
theorem J.load(hE:EnvOk2 X.E X.P)(hX:C.E=X.E)(L:Lx X C ops D V M)(y:J X C ops D ρ0 h0 w0 p In Ms a w ρ)(hi:i<ops.size)(a1:¬In i)(hr:∀e∈ops[i].after,Ez .any e=φ->In e.on)
  (hw:vf ops.toList (D i).s.t ops[i]=φ)(hc:Kd ops[i].op=1){h:Hp}(ad:vQ (M i) (D i).ef i (D i).s.h=(u,h))(hp:uA C.E ops[i].op (ev (D i).s.t) h=ξ (v,b))
  (h1:qS u b (D i).ef=φ)(h2:qn (M i) b (D i).al=φ)(a9:(D (i+1)).ld=(i,b)::(D i).ld):
  (∀ρ',Ku C ops D p In ρ ρ'->(execOp a.eval ops[i]).run X.P w=.ok (.value (conc ρ' v)) w)/\Nb (3*(D i).s.n) v:=by
 have⟨a4,ag⟩:=L.efs (j:=i) Z;have⟨ae,am⟩:=fK _ _ _ _ _ ad a4;have Z1:=L.maskIn y.cl i hi hr;have T:=L.cst ops[i] (G1 hi);rw[hX]at hp;have R:uA X.E ops[i].op (only ops[i] (ev (D i).s.t)) h=ξ (v,b):=uz (λx f=>oF f) hp rfl;have hu:u<=i/\h=(D u).s.h:=by grind
 obtain⟨an,rfl⟩:=hu;have⟨xx,F⟩:=Wh R;have ai:=y.le;have S:∀e W,KW ops D e W->e<u->e<p:=λe W G a0=>(by have B:(e,(D e).s.h,W)∈(D i).ef:=(by have⟨_,_,_,Z3⟩:=id G;exact(L.sub (i:=e+1) (j:=i) Z Z).2.2 _ (by rw[Z3];simp));exact(y.eff e W G).1 (Z1 e (ae _ B a0)));have ac:∀e W,KW ops D e W->u<=e->e<p->b∉W:=λe W G aa a0=>by
  have⟨Z4,I,a7,Z3⟩:=id G;obtain Z0|Z0|Z0:=Nat.lt_trichotomy e i;have B:(e,(D e).s.h,W)∈(D i).ef:=(L.sub (i:=e+1) (j:=i) Z Z).2.2 _ (by rw[Z3];simp);exact V9 h1 _ _ _ B aa;subst Z0;rw[hc]at I;cases I;have N:In e:=(y.eff e W G).2 a0;have B:(i,b)∈(D e).ld:=(L.sub (i:=i+1) Z Z).2.1 _ (by rw[a9];simp);cases L.stp e Z4 with
  |skip hw' _ _ _=>rw[a7]at hw';cases hw'
  |pure _ _ hc3 _ _ _=>exact Cu I hc3
  |load _ hc1 _ _ _ _ _ _ _ _ _=>rw[I]at hc1;cases hc1
  |make _ hc2 _ _ _ _ _ _ _ _ _=>rw[I]at hc2;cases hc2
  |eff _ _ W' _ _ _ h3 _ _ _ _ he'=>
   have:W'=W:=by grind
   subst this;obtain g|g:=fQ h3 i b B;exact Cu (L.maskIn y.cl e Z4 (y.cl e Z4 N) i g) a1;exact g
 have a2:∀g:Hp,g.at b=(D u).s.h.at b->∀m,m<=3*(D i).s.n->Kq m g->(∀ρ',Ku C ops D p In ρ ρ'->Sim X ρ' g w)->
   (∀ρ',Ku C ops D p In ρ ρ'->(execOp a.eval ops[i]).run X.P w=.ok (.value (conc ρ' v)) w)/\Nb (3*(D i).s.n) v:=λg hg m K hn hs=>by
  have hl:uA X.E ops[i].op (only ops[i] (ev (D i).s.t)) g=ξ (v,b):=uz (λx _=>rfl) R hg;refine⟨λρ' A=>?_,((rH hE hl (hs ρ Ku.refl) hn).2).mono K⟩;rw[vk T (y.evals L hi a1 hr A)];exact(rH hE hl (hs ρ' A) hn).1
 by_cases hup:u<=p;obtain⟨d,rfl⟩:∃d,p=u+d:=⟨p-u,Z⟩;have a6:b<3*(D u).s.n:=(y.hnb u Z _ _ F).1;have a3:=y.stays L d Cy a6 (λe W G g1 g2=>ac e W G g1 g2);obtain⟨hl,_⟩:(uA X.E ops[i].op (only ops[i] (ev (D i).s.t)) (D (u+d)).s.h=ξ (v,b))/\True:=⟨uz (λx _=>rfl) R a3,Cx⟩;have hK:=y.core;refine⟨λρ' A=>?_,?_⟩;rw[vk T (y.evals L hi a1 hr A)];exact(rH hE hl (hK ρ' A).post.sim (hK ρ' A).post.nb).1;have⟨t,H⟩:=Tr.single (θ:Option Blk) (ξ xx) b;have a8:uA X.E ops[i].op (only ops[i] (ev (D i).s.t)) t=ξ (v,b):=uz (λx _=>rfl) R Ba;have hs:Sim X ρ t w:=(by refine⟨λc x f=>?_,λc c' f l _=>?_⟩;have f:Tr.get θ t c=ξ x:=f;rw[H]at f;split at f;rename_i e;subst e;rw[<-F,<-a3]at f;exact(hK ρ Ku.refl).post.sim.blk c x f;cases f;have f:(Tr.get θ t c).isSome:=f;have l:(Tr.get θ t c').isSome:=l;rw[H]at f l;split at f;split at l;rename_i e e';rw[e,e'];cases l;cases f);have hn:Kq (3*(D u).s.n) t:=λc x f=>(by have f:Tr.get θ t c=ξ x:=f;rw[H]at f;split at f;rename_i e;subst e;rw[<-F]at f;exact y.hnb u Z _ _ f;cases f);exact((rH hE a8 hs hn).2).mono (by have:=L.nle (j:=i) Z Z;omega);obtain⟨d,rfl⟩:∃d,u=p+d:=⟨u-p,Z⟩;have ab:∀e W,KW ops D e W->p<=e->e<p+d->False:=λe W G g1 g2=>by have:=S e W G g2;omega
 obtain hb|⟨j,c,e,K,g1,g2,g3⟩:=L.hist d Z ab b _ F;exact a2 (D p).s.h (by rw[hb,F]) (3*(D p).s.n) (by have:=L.nle (i:=p) (j:=i) Z Z;omega) (y.hnb p Cy) λρ' A=>(y.core ρ' A).post.sim;have N:In j:=(by have B:(j,b)∈(D i).al:=(L.sub (i:=j+1) (j:=i) Z Z).1 _ (L.makes K).2.2.2.2.2.2.1;obtain g|g:=V8 h2 j b B;exact Z1 j g;exact Cu ω g);subst g3;have⟨t,H⟩:=Tr.single (θ:Option Blk) (ξ (.row c e)) b;have aj:=(L.makes K).2.1;have ah:=L.nle (i:=j+1) (j:=i) Z Z;have ak:=(L.makes K).2.2.2.1;refine a2 t Ba (3*(D i).s.n) Cy (λq x f=>?_) λρ' A=>⟨λq x f=>?_,λq q' f l _=>?_⟩;have f:Tr.get θ t q=ξ x:=f;rw[H]at f;split at f;rename_i eq;injection f with f;subst eq f;exact⟨Z,λv hv=>(y.cnb _ _ _ _ K N v hv).mono Z⟩;cases f;have f:Tr.get θ t q=ξ x:=f;rw[H]at f;split at f;rename_i eq;injection f with f;subst eq f;have⟨o,ho,a5,_⟩:=(y.core ρ' A).made _ _ _ _ K g1 N;exact⟨o,ho,a5⟩;cases f;have f:(Tr.get θ t q).isSome:=f;have l:(Tr.get θ t q').isSome:=l;rw[H]at f l;split at f;split at l;rename_i e1 e2;rw[e1,e2];cases l;cases f
end
end
section
variable{X:Rel}{C:Ctx}{ops:Array Oper}{D:Nat->Dr}{V:Nat->ψ}{M:Nat->Nat}{ρ0 ρ:Ren}{h0:Hp}{p:Nat}{w:World}
def Post.grow{ρ:Ren}{h:Hp}{w:World}(p:Post X ρ0 n0 h0 w0 W ρ v h n w)(d:∀k,k<w.heap.size->w'.heap[k]?=w.heap[k]?)(A:w.heap.size<=w'.heap.size)(l:w'.os=w.os)(m:w'.tape=w.tape)(f:w'.output=w.output):Post X ρ0 n0 h0 w0 W ρ v h n w':=by refine⟨p.agr,p.le,⟨λc x s=>?_,p.sim.inj⟩,p.nb,p.val,p.wlt,p.wmem,λj u q=>?_,by have:=p.size;omega,l.trans p.os,m.trans p.tape,f.trans p.out,p.new,p.old⟩;have⟨o,g,y⟩:=p.sim.blk c x s;exact⟨o,by rw[d _ (Dv.1 g).1];exact g,y⟩;rw[d j (by have:=p.size;omega)];exact p.fr j u q
def xw.lt_of_lt(L:Lx X C ops D V M){c:List ψ}(hm:xw C ops D j b c e)(hi:i<=ops.size)(h:j<i):b<3*(D i).s.n:=by have d:=(L.makes hm).2.1;have f:=(L.makes hm).2.2.2.1;have g:=L.nle (i:=j+1) (j:=i) Z hi;omega
def xw.le_of_le(L:Lx X C ops D V M){c:List ψ}(hm:xw C ops D j b c e)(h:i<=j):3*(D i).s.n<=b:=by have d:=(L.makes hm).1;have g:j<ops.size:=hm.1;have f:=L.nle (i:=i) (j:=j) h Z;omega
theorem J.make(hE:EnvOk2 X.E X.P)(hX:C.E=X.E)(L:Lx X C ops D V M)(hJ:J X C ops D ρ0 h0 w0 p In Ms a w ρ)(hi:i<ops.size)(hni:¬In i)(hr:∀e∈ops[i].after,Ez .any e=φ->In e.on)
  (hw:vf ops.toList (D i).s.t ops[i]=φ)(hc:Kd ops[i].op=2){k:Mk}(hm:Kl C.E ops[i].op (ev (D i).s.t)=ξ k)(hv:V i=k.val (D i).s.n):
  ∃ρ2 w' val,(execOp a.eval ops[i]).run X.P w=.ok (.value val) w'/\J X C ops D ρ0 h0 w0 p (λj=>In j\/j=i) Ms (a.put ops[i].dst val) w' ρ2:=by
 have hcst:=L.cst ops[i] (G1 hi);have hmk:xw C ops D i (k.name (D i).s.n) k.c k.e:=⟨hi,k,hc,hw,hm,ω,ω,ω⟩;have hpi:p<=i:=GC λh=>hni (hJ.mkp _ _ _ _ hmk h);have⟨n1,n2,n3,n4⟩:=rG k (D i).s.n;have hnext:=(L.makes hmk).2.2.2.1;have⟨t,ht⟩:=Tr.single (θ:Option Blk) (ξ (.row k.c k.e)) (k.name (D i).s.n);have hevn:=hJ.evnb L hi hni hr;have hmO:Kl X.E ops[i].op (only ops[i] (ev (D i).s.t))=ξ k:=by grind [V3,oF]
 have⟨ρ1,w',hrun,hpost⟩:=QJ (X:=X) (ρ:=ρ) (h:=.lf) (h':=t) (w:=w) (n:=(D i).s.n) hE.toEnvOk ⟨λb x hb=>(by cases hb),λb b' hb=>(by cases hb)⟩ (λb x hb=>(by cases hb)) (oE hevn) hmO (λc=>ht c);rw[<-vk hcst (hJ.evals L hi hni hr Ku.refl)]at hrun;generalize hbb:k.name (D i).s.n=b at*;have htb:Hp.at t b=ξ (.row k.c k.e):=by grind
 have⟨o,ho,hrel⟩:=hpost.sim.blk b _ htb;have hbnew:w.heap.size<=ρ1.b b:=(by rcases hpost.new b n2 (by rw[htb];rfl)with h|⟨c,hc,_⟩;exact h;cases hc);have hfar:∀j,j<w.heap.size->w'.heap[j]?=w.heap[j]?:=λj hj=>hpost.fr j hj λc hc=>by cases hc
 have hρx:gro b=χ->ρ1.x b=0:=ρ1.ex b;let ρ2:Ren:=ρ.upd b (ρ1.b b) (ρ1.x b) hρx n1;have e2:ρ2.b b=ρ1.b b/\ρ2.x b=ρ1.x b:=by simp[ρ2,Ren.upd]
 have e2':∀c,c≠b->ρ2.b c=ρ.b c/\ρ2.x c=ρ.x c:=λc hc=>by simp[ρ2,Ren.upd,hc]
 have hnm:∀j b' c e,xw C ops D j b' c e->j≠i->b'≠b:=λj b' c e hm' hne=>(by obtain h|h:=Hw hne;have:=xw.lt_of_lt L hm' (i:=i) Z h;omega;have:=xw.le_of_le L hm' (i:=i+1) h;omega);have hnp:=L.nle (i:=p) (j:=i) hpi Z;have hagd:∀ρ',Ku C ops D p (λj=>In j\/j=i) ρ2 ρ'->Ku C ops D p In ρ ρ':=λρ' h=>(by refine⟨λc hc=>?_,λj b' c e hm' hp hin=>?_⟩;have h1:=h.1 c hc;have h2:=e2' c Z;exact⟨h1.1.trans h2.1,h1.2.trans h2.2⟩;have h1:=h.2 j b' c e hm' hp (.inl hin);have h2:=e2' b' (hnm j b' c e hm' λe'=>by subst e';exact hni hin);exact⟨h1.1.trans h2.1,h1.2.trans h2.2⟩);have hatb:∀ρ',Ku C ops D p (λj=>In j\/j=i) ρ2 ρ'->ρ'.b b=ρ1.b b/\ρ'.x b=ρ1.x b:=λρ' h=>(by have:=h.2 i b k.c k.e hmk hpi (.inr ω);exact⟨this.1.trans e2.1,this.2.trans e2.2⟩);have hvalc:∀ρ',ρ'.b b=ρ1.b b/\ρ'.x b=ρ1.x b->conc ρ1 (k.val (D i).s.n)=conc ρ' (k.val (D i).s.n):=λρ' h=>(by unfold Mk.val;rw[hbb];split<;>simp[Ren.addr,h.1,h.2]);have hcn:∀v∈k.c,Nb (3*(D i).s.n) v:=λv hv=>by
  rcases QQ (λe sz bt z hz=>(hE.inf e sz bt z (by rw[<-hX];exact hz)).2) hm v hv with h|⟨x,hx,h⟩;exact λr r' _=>by rw[h,h]
  exact(hevn x hx).cells v h
 have hcc:∀ρ',Ku C ops D p In ρ ρ'->∀v∈k.c,conc ρ' v=conc ρ1 v:=λρ' h v hv=>(by rw[hcn v hv ρ ρ1 hpost.agr];rcases QQ (λe sz bt z hz=>(hE.inf e sz bt z (by rw[<-hX];exact hz)).2) hm v hv with h'|⟨x,hx,h'⟩;rw[h',h'];have q1:=hJ.evals L hi hni hr h x hx;have q2:=hJ.evals L hi hni hr Ku.refl x hx;have q:=congrArg zn (q1.symm.trans q2);rw[yz,yz]at q;exact IM.1 q v h');refine⟨ρ2,w',_,hrun,hJ.le,λe W he=>?_,λj b c e hm hp=>.inl (hJ.mkp j b c e hm hp),λj hj' hin e he hb=>?_,by rw[kl];exact hJ.size,by rw[qk];exact hJ.dfr,hJ.nd,λk' q hvq=>?_,hJ.hnb,λj b' c e hm' hin=>?_,hJ.old,λρ' hρ'=>?_⟩;rw[<-hJ.eff e W he];refine⟨λh=>h.resolve_right λe'=>?_,.inl⟩;subst e';have⟨_,h3,_⟩:=he;rw[hc]at h3;cases h3;obtain hin|rfl:=hin;exact .inl (hJ.cl j hj' hin e he hb);exact .inl (hr e he hb);obtain⟨_,hiq,h⟩|⟨_,h⟩:=hJ.next L hi hni hvq;rw[h,hv];exact hpost.val.mono (by have:=L.nle (i:=i+1) (j:=q) Z hvq.1;omega);exact hJ.nb k' q h;obtain hin|rfl:=hin;exact hJ.cnb j b' c e hm' hin;obtain⟨_,k',_,_,hk',_,rfl,_⟩:=hm';rw[hm]at hk';injection hk' with hk';subst hk';exact hcn;have hag:=hagd ρ' hρ';have hK:=hJ.core ρ' hag;have hb':=hatb ρ' hρ';have hin':∀j b' c e,xw C ops D j b' c e->j=i->b'=b/\c=k.c/\e=k.e:=λj b' c e hm' e'=>(by subst e';have⟨_,k',_,_,hk',h1,h2,h3⟩:=hm';rw[hm]at hk';injection hk' with hk';subst hk';exact⟨h1.trans hbb,h2,h3⟩);refine⟨hK.post.grow hfar hpost.size hpost.os hpost.tape hpost.out,λj b' c e hm' hp hin=>?_,λj b1 c1 e1 j' b2 c2 e2 hm1 hm2 hp1 hp2 hin1 hin2 hne=>?_,λk' hk q hvq=>?_,λx hx=>?_⟩;obtain hin|hin:=hin;have⟨o',ho',h1,h2,h3,h4⟩:=hK.made j b' c e hm' hp hin;exact⟨o',by rw[hfar _ (Dv.1 ho').1];exact ho',h1,h2,h3,h4⟩;obtain⟨rfl,rfl,rfl⟩:=hin' j b' c e hm' hin;refine⟨o,by rw[hb'.1];exact ho,?_,?_,λq hq=>?_,λx hx=>?_⟩;obtain⟨junk,fz,rfl,r1,r2,r3⟩:=hrel;refine⟨junk,fz,?_,r1,r2,λsz bt z hz=>by rw[hb'.2];exact r3 sz bt z hz⟩;rw[D5 (hcc ρ' hag)];rw[hb'.1];have:=hK.post.size;omega;have⟨y,hy⟩:=Do.1 hq;have⟨o',ho',_⟩:=hK.post.sim.blk q y hy;have:=(Dv.1 ho').1;rw[hb'.1];omega;have:=(Dv.1 (hK.mark x hx).1).1;rw[hb'.1];omega;have small:∀j b c e,xw C ops D j b c e->p<=j->In j->ρ'.b b<w.heap.size:=λj b c e hm hp hin=>(by have⟨o',ho',_⟩:=hK.made j b c e hm hp hin;exact(Dv.1 ho').1);obtain hin1|hin1:=hin1;obtain hin2|hin2:=hin2;exact hK.apart _ _ _ _ _ _ _ _ hm1 hm2 hp1 hp2 hin1 hin2 hne;obtain⟨rfl,_⟩:=hin' _ _ _ _ hm2 hin2;have:=small _ _ _ _ hm1 hp1 hin1;rw[hb'.1];omega;obtain hin2|hin2:=hin2;obtain⟨rfl,_⟩:=hin' _ _ _ _ hm1 hin1;have:=small _ _ _ _ hm2 hp2 hin2;rw[hb'.1];omega;exact Cu (hin1.trans hin2.symm) hne;rw[fM];obtain⟨hd,_,h⟩|⟨hd,h⟩:=hJ.next L hi hni hvq;rw[Cw ⟨hd,by rw[hJ.size];exact hk⟩,h,hv,hvalc ρ' hb'];rw[Cv (λh=>hd h.1)];exact hK.tmp k' hk q h;have⟨m1,m2,m3⟩:=hK.mark x hx;exact⟨by rw[hfar _ (Dv.1 m1).1];exact m1,m2,m3⟩
def Ren.mix(m:Nat)(ρ1 ρ:Ren):Ren where
 b c:=if c<m then ρ1.b c else ρ.b c
 x c:=if c<m then ρ1.x c else ρ.x c
 ex c hc:=by
  split
  .exact ρ1.ex c hc
  exact ρ.ex c hc
 gl g:=by
  split
  .exact ρ1.gl g
  exact ρ.gl g
def J.effect(L:Lx X C ops D V M)(A:J X C ops D ρ0 h0 w0 p In Ms a w ρ)(hi:i<ops.size)(ab:¬In i)(hr:∀e∈ops[i].after,Ez .any e=φ->In e.on)
  (hw:vf ops.toList (D i).s.t ops[i]=φ)(B:Kd ops[i].op=3)(h1:gu (M i) (D i).ef=φ)(h2:xJ (M i) (D i).al=φ)
  (hW:(D (i+1)).s.w=addW C.n0 W (D i).s.w)(he:(D (i+1)).ef=(i,(D i).s.h,W)::(D i).ef):
  Sim X ρ (D i).s.h w/\Kq (3*(D i).s.n) (D i).s.h/\∀Z4 w',Post X ρ (D i).s.n (D i).s.h w W Z4 (V i) (D (i+1)).s.h (D (i+1)).s.n w'->
   ∃ρ2,J X C ops D ρ0 h0 w0 (i+1) (λj=>In j\/j=i) Ms (a.put ops[i].dst (conc Z4 (V i))) w' ρ2:=by have an:KW ops D i W:=⟨hi,B,hw,he⟩;have ac:p<=i:=GC λh=>ab ((A.eff i W an).2 h);have a6:=L.maskIn A.cl i hi hr;have R:∀e u,KW ops D e u->e<i->In e:=λe u H F=>(by have⟨_,_,_,a3⟩:=id H;have a1:(e,(D e).s.h,u)∈(D i).ef:=(L.sub (i:=e+1) (j:=i) Z Z).2.2 _ (by rw[a3];simp);exact a6 e (Wb h1 _ _ a1));have a2:∀j b c e,xw C ops D j b c e->j<i->In j:=λj b c e l F=>(by have a1:(j,b)∈(D i).al:=(L.sub (i:=j+1) (j:=i) Z Z).1 _ (L.makes l).2.2.2.2.2.2.1;exact a6 j (Wa h2 _ _ a1));have aq:∀e u,KW ops D e u->p<=e->e<i->False:=λe u H S Z0=>(by have:=(A.eff e u H).1 (R e u H Z0);omega);have I:∀q,p<=q->q<=i->∀f,Ku C ops D p In ρ f->Post X ρ0 C.n0 h0 w0 (D q).s.w f undef (D q).s.h (D q).s.n w/\∀b,((D q).s.h.at b).isSome->((D p).s.h.at b).isSome\/∃j c e,xw C ops D j b c e/\p<=j/\j<q:=λq S Z0 f ae=>(by have:=QT L A (q-p) Z (λe u H N Z1=>aq e u H N Z) (λj b c e l N Z1=>a2 j b c e l Z) f ae;rw[show p+(q-p)=q from Z]at this;exact this);have⟨a7,az⟩:=I i ac Cy ρ Ku.refl;refine⟨a7.sim,a7.nb,λZ4 w' d=>⟨Ren.mix (3*(D (i+1)).s.n) Z4 ρ,?_⟩⟩;have ax:=L.nle (i:=p) (j:=i) ac Z;have au:=L.nle (i:=i) (j:=i+1) Z Z;have K:∀j b c e,xw C ops D j b c e->j≠i:=λj b c e l Z3=>(by subst Z3;have⟨_,_,h3,_⟩:=l;rw[B]at h3;cases h3);have aj:∀f,Ku C ops D (i+1) (λj=>In j\/j=i) (Ren.mix (3*(D (i+1)).s.n) Z4 ρ) f->Ku C ops D p In ρ f/\Kv (3*(D (i+1)).s.n) Z4 f:=λf h=>(by have G:Kv (3*(D (i+1)).s.n) Z4 f:=λc B=>(by have:=h.1 c B;simp[Ren.mix,B]at this;exact this);have a5:∀c,c<3*(D i).s.n->f.b c=ρ.b c/\f.x c=ρ.x c:=λc B=>(by have N:=G c Z;have Z1:=d.agr c B;exact⟨N.1.trans Z1.1,N.2.trans Z1.2⟩);refine⟨⟨λc B=>a5 c Z,λj b c e l hp m=>?_⟩,G⟩;obtain g|g:=Hw (K j b c e l);exact a5 b (xw.lt_of_lt L l Z g);have q:=h.2 j b c e l g (.inl m);have Z1:=xw.le_of_le L l (i:=i+1) g;simp only[Ren.mix,Cv (aa0.2 Z1)]at q;exact q);refine⟨Z,λe u H=>?_,λj b c e l F=>?_,λj ao m e ag hb=>?_,by rw[kl];exact A.size,by rw[qk];exact A.dfr,A.nd,λk q a8=>?_,λq T=>?_,λj b c e l m=>?_,λe u H F=>?_,λf ae=>?_⟩;constructor;rintro(h|rfl);have:=(A.eff e u H).1 h;omega;omega;intro F;by_cases Z3:e=i;exact .inr Z3;exact .inl (R e u H Z);exact .inl (a2 j b c e l aD);obtain m|rfl:=m;exact .inl (A.cl j ao m e ag hb);exact .inl (hr e ag hb);obtain⟨_,aw,h⟩|⟨_,h⟩:=A.next L hi ab a8;rw[h];exact d.val.mono (by have:=L.nle (i:=i+1) (j:=q) Z a8.1;omega);exact A.nb k q h;by_cases g:q<=p;exact A.hnb q g;by_cases g':q<=i;exact(I q Z g' ρ Ku.refl).1.nb;have:q=i+1:=Z;subst this;exact d.nb;exact A.cnb j b c e l (m.resolve_right (K j b c e l));by_cases Z3:e=i;subst Z3;have:u=W:=(by have⟨_,_,_,a3⟩:=H;rw[he]at a3;injection a3 with N Z1;injection N with N q3;injection q3 with _ q3;exact q3.symm);subst this;exact d.old;exact A.old e u H ((A.eff e u H).1 (R e u H Z));have⟨af,G⟩:=aj f ae;have hK:=A.core f af;have a9:∀c,c<3*(D i).s.n->f.b c=ρ.b c:=λc B=>(G c Z).1.trans (d.agr c B).1;have⟨ay,ar⟩:=I i ac Cy f af;have av:∀q,((D i).s.h.at q).isSome->q<3*(D i).s.n:=λq T=>(by have⟨y,hy⟩:=Do.1 T;exact(a7.nb q y hy).1);have ad:∀k,(∀q,((D p).s.h.at q).isSome->f.b q≠k)->(∀j b c e,xw C ops D j b c e->p<=j->j<i->In j->f.b b≠k)->∀q,((D i).s.h.at q).isSome->f.b q≠k:=λk S Z0 q T=>(by obtain g|⟨j,c,e,l,N,Z1⟩:=ar q T;exact S q g;exact Z0 j q c e l N Z1 (a2 j q c e l Z1));have P:∀k,k<w.heap.size->(∀q,((D i).s.h.at q).isSome->f.b q≠k)->∀q,((D (i+1)).s.h.at q).isSome->f.b q≠k:=λk hk g q T=>(by by_cases hq3:q<3*(D i).s.n;apply g;by_cases hqW:q∈W;exact d.wmem q hqW;rw[<-d.old q hq3 hqW];exact T;have⟨y,hy⟩:=Do.1 T;rw[(G q (d.nb q y hy).1).1];obtain h4|⟨c,B,h4⟩:=d.new q Z T;omega;rw[h4,<-a9 c (d.wlt c B)];exact g c (d.wmem c B));have a4:∀k,k<w.heap.size->(∀q,((D i).s.h.at q).isSome->f.b q≠k)->w'.heap[k]?=w.heap[k]?:=λk hk g=>d.fr k hk λc B=>(by rw[<-a9 c (d.wlt c B)];exact g c (d.wmem c B));refine⟨?_,λj b c e l hp m=>?_,λj b1 c1 e1 j' b2 c2 e2 ah ai S Z0 ak am ap=>?_,λk hk q a8=>?_,λx hx=>?_⟩;rw[hW];exact((a7.trans d).wv Nb.undef).agr2 G;have m:=m.resolve_right (K j b c e l);have⟨o,ho,r1,r2,r3,r4⟩:=hK.made j b c e l Z m;have F:=(Dv.1 ho).1;have hs:=ad (f.b b) r3 λj' b' c' Z3 aa S Z0 a0=>hK.apart _ _ _ _ _ _ _ _ aa l S Z a0 m Z;exact⟨o,by rw[a4 _ F hs];exact ho,r1,r2,P _ F hs,r4⟩;exact hK.apart _ _ _ _ _ _ _ _ ah ai Z Z (ak.resolve_right (K _ _ _ _ ah)) (am.resolve_right (K _ _ _ _ ai)) ap;rw[fM];obtain⟨hd,_,h⟩|⟨hd,h⟩:=A.next L hi ab a8;rw[Cw ⟨hd,by rw[A.size];exact hk⟩,h,d.val Z4 f G];rw[Cv (λh=>hd h.1)];exact hK.tmp k hk q h;have⟨m1,m2,m3⟩:=hK.mark x hx;have F:=(Dv.1 m1).1;have hs:=ad x m3 λj' b' c' Z3 aa S Z0 a0=>(by have⟨_,_,_,_,_,r4⟩:=hK.made _ _ _ _ aa S a0;exact r4 x hx);exact⟨by rw[a4 _ F hs];exact m1,m2,P _ F hs⟩
theorem J.step(G:EnvOk2 X.E X.P)(S:C.E=X.E)(L:Lx X C ops D V M)(f:J X C ops D ρ0 h0 w0 p In Ms a w ρ)(hi:i<ops.size)(d:¬In i)(g:∀e∈ops[i].after,Ez .any e=φ->In e.on)
  {Z3:Option Nat}{Z4:Nat}{K:Act->World->Prop}{Q:Exit->Act->World->Prop}(B:∀p' a' w' l,J X C ops D ρ0 h0 w0 p' (λj=>In j\/j=i) Ms a' w' l->K a' w'):
  wpOpIn (Wd Z3) Z4 X.P ops Q i K a w:=by
 have m:=L.cst ops[i] (G1 hi);have F:=f.wanted L hi d g;unfold wpOpIn;rw[Hl hi];simp only;rw[F];have Z1:=L.stp i hi;cases Z1 with
 |skip hw hv hs hl=>
  rw[hw];simp only[Ew,if_false];refine⟨λ_ _=>trivial,B p _ w ρ ?_⟩;exact f.quiet L hi d g (fU λ_ _ h=>by rw[hw]at h;cases h) (oH λ_ _ h=>by rw[hw]at h;cases h) (λl _=>by rw[hv];simp) (by rw[hv];exact Nb.undef)
 |pure hw hc2 hc3 hp hs hl=>
  rw[hw];simp only[if_true];have I:yy X.E ops[i].op (only ops[i] (ev (D i).s.t))=ξ (V i):=by grind [fO,oF]
  have c:∀l,Ku C ops D p In ρ l->(execOp a.eval ops[i]).run X.P w=.ok (.value (conc l (V i))) w:=λl y=>(by rw[vk m (f.evals L hi d g y)];exact rD G.toEnvOk w l (λ_=>rfl) I);have o:Nb (3*(D (i+1)).s.n) (V i):=(by rw[hs.n];exact fN G.toEnvOk (oE (f.evnb L hi d g)) I);refine uj m (c ρ Ku.refl) (.inl ω) (B p _ w ρ ?_);refine f.quiet L hi d g (fU λ_ h _=>hc3 h) (oH λ_ h _=>hc2 h) (λl y=>?_) o;have q:=(c ρ Ku.refl).symm.trans (c l y);injection q with q;injection q
 |load hw hc u b h hrd hp h1 h2 hs hl=>
  rw[hw];simp only[if_true];have⟨c,o⟩:=f.load G S L hi d g hw hc hrd hp h1 h2 hl;refine uj m (c ρ Ku.refl) (.inl ω) (B p _ w ρ ?_);refine f.quiet L hi d g (fU λ_ h _=>by rw[hc]at h;cases h) (oH λ_ h _=>by rw[hc]at h;cases h) (λl y=>?_) (by rw[hs.n];exact o);have q:=(c ρ Ku.refl).symm.trans (c l y);injection q with q;injection q
 |make hw hc k hm hv hh hn hW ha hl he=>
  rw[hw];simp only[if_true];have⟨R,w',a0,c,A⟩:=f.make G S L hi d g hw hc hm hv;exact uj m c (.inl ω) (B p _ w' R A)
 |eff hw hc W hEf h1 h2 h3 h4 hW ha hl he=>
  rw[hw];simp only[if_true];have⟨N,o,T⟩:=f.effect L hi d g hw hc h1 h2 hW he;refine hEf Z3 Z4 a w ρ (f.evals L hi d g Ku.refl) (f.evnb L hi d g) N o K Q λZ0 w' H=>?_;have⟨R,A⟩:=T Z0 w' H;exact B _ _ w' R A
def xv(listed:Array Bool)(j:Nat):Prop:=listed.getD j χ=φ
def rd(listed:Array Bool):Nat:=listed.toList.countP (λb=> !b)
theorem qL{c:Array Bool}(hi:i<c.size)(h:c[i]=χ):rd (c.setIfInBounds i φ)+1=rd c:=by
 unfold rd;rw[Array.toList_setIfInBounds];have:∀(l:List Bool) (i:Nat) (hi:i<O l),l[i]=χ->(l.set i φ).countP (λb=> !b)+1=l.countP (λb=> !b):=by grind
 exact this _ _ (by simpa using hi) (by simpa using h)
def Wi(hE:EnvOk2 X.E X.P)(hX:C.E=X.E)(L:Lx X C ops D V M){ro:Option Nat}{kk:Nat}{Q:Exit->Act->World->Prop}{s':St}(a6:(D ops.size).s=s')
  (hQ:∀K w',KN X C.nt C.n0 ρ0 h0 w0 s' K w'->Q .normal K w'):∀(l:Nat) (listed:Array Bool) (p:Nat) (a:Act) (w:World) (ρ:Ren),listed.size=ops.size->rd listed<=l->J X C ops D ρ0 h0 w0 p (xv listed) Ms a w ρ->
   wpAnyIn (Wd ro) kk X.P .any ops Q l listed a w:=by
 have H:∀(listed:Array Bool) (p:Nat) (a:Act) (w:World) (ρ:Ren),listed.size=ops.size->ab4 .any ops listed=[]->J X C ops D ρ0 h0 w0 p (xv listed) Ms a w ρ->Q .normal a w:=by
  intro listed p a w ρ u q d;have y:∀i,i<ops.size->xv listed i:=by
   intro i;induction i using Gf with
   |ind i ih=>
    intro m;apply CW;intro I;have:i∈ab4 .any ops listed:=(by rw[mem_ready];refine⟨?_,ops[i],Hl m,λe G N=>ih e.on (L.down m e G N) (by have:=L.down m e G N;omega)⟩;unfold xv at I;have f:i<listed.size:=Z;simp[f]at I⊢;exact I);rw[q]at this;cases this
  have A:∀k,MR ops (xv listed) k ops.size:=λk=>⟨Cy,λi m _=>⟨λ_=>m,λ_=>y i m⟩⟩;have⟨B,R⟩:=QT L d (ops.size-p) (by have:=d.le;omega) (λe W G S Z0=>by
   have⟨a3,_⟩:=id G;have:=(d.eff e W G).1 (y e a3);omega) (λj b c e Z1 S Z0=>y j Z1.1) ρ Ku.refl
  rw[show p+(ops.size-p)=ops.size from by have:=d.le;omega]at B R;have T:=d.core ρ Ku.refl;apply hQ;rw[<-a6];refine⟨ρ,Ms,⟨d.size,λk Z4=>T.tmp k Z4 ops.size (A k),λk Z4=>L.past' Cy Z4⟩,λk=>d.nb k ops.size (A k),B,d.dfr,d.nd,λx hx=>?_⟩;have⟨m1,m2,m3⟩:=T.mark x hx;refine⟨m1,m2,λb N=>?_⟩;obtain g|⟨j,c,e,Z1,S,Z0⟩:=R b N;exact m3 b g;have⟨_,_,_,_,_,r⟩:=T.made j b c e Z1 S (y j Z1.1);exact r x hx
 intro l;induction l with
 |zero=>
  intro listed p a w ρ u hf d;have q:ab4 .any ops listed=[]:=by
   rw[List.eq_nil_iff_forall_not_mem];intro i m;have⟨F,o,Z3,_⟩:=mem_ready.1 m;have f:i<listed.size:=by rw[u];exact(Dv.1 Z3).1
   simp[f]at F;have:=qL f F;omega
  exact⟨q,H listed p a w ρ u q d⟩
 |succ l ih=>
  intro listed p a w ρ u hf d;refine⟨λq=>H listed p a w ρ u q d,λi m=>?_⟩;have⟨F,o,Z3,a5⟩:=mem_ready.1 m;obtain⟨a2,rfl⟩:=Dv.1 Z3;have f:i<listed.size:=Z;simp[f]at F;have a4:¬xv listed i:=by unfold xv;simp[f,F]
  refine d.step hE hX L a2 a4 a5 λp' K w' ρ' a0=>?_;have a1:=qL f F;refine ih (listed.setIfInBounds i φ) p' K w' ρ' (by simpa using u) Z ?_;have e:(λj=>xv listed j\/j=i)=xv (listed.setIfInBounds i φ):=(by funext j;unfold xv;by_cases e:j=i;subst e;simp[f];simp only[e,or_false];rw[getD_set_ne χ (λh=>e h.symm)]);rw[<-e];exact a0
def mW(hE:EnvOk2 X.E X.P)(hX:C.E=X.E)(hC:CalOk X C.C):MQ X C ρ0 h0 w0 regOk:=by
 intro ops S B s s' T ro kk a w Q hI hQ;have⟨D,V,d,Z0,F⟩:=V7 hE hX hC ops.toList (xA ops.toList []) 0 _ s' (λo ho=>B o (by simpa using ho)) T;have⟨ρ,Ms,Z4,hn,R,a0,a1,hM⟩:=hI;have l:O ops.toList=ops.size:=by simp
 have L:Lx X C ops D V (λi=>(xA ops.toList []).getD i 0):=by
  refine⟨λi g=>?_,λi g=>?_,λi g=>?_,S,B,λk Z1=>?_,by rw[d],by rw[d],by rw[d]⟩;have⟨m,G,H,_⟩:=F i (by rw[l];exact g);have:(xA ops.toList []).getD i 0=m:=by simp[Iu,G]
  rw[this];simpa using H;have⟨m,G,_,H⟩:=F i (by rw[l];exact g);simpa using H;have⟨m,G,_⟩:=F i (by rw[l];exact g);simp[Iu,G];rw[d];exact Z4.past k Z1
 have f:∀j,¬xv (Ge ops.size χ) j:=λj=>(by unfold xv;by_cases h:j<ops.size<;>simp[h]);have hJ:J X C ops D ρ0 h0 w0 0 (xv (Ge ops.size χ)) Ms a {w with drawn:=w.drawn+1} ρ:=by
  refine⟨Cz,λe W _=>⟨λh=>Cu h (f e),λh=>Cu h (DM _)⟩,λj b c e _ h=>Cu h (DM _),λi g h=>Cu h (f i),Z4.size,a0,a1,λk q u=>?_,λi g=>?_,λj b c e _ h=>Cu h (f j),λe W _ h=>Cu h (DM _),λρ' a2=>?_⟩;have Z3:nth (D q).s.t k=nth (D 0).s.t k:=(by exact BL);rw[Z3];have:=L.nle (i:=0) (j:=q) Cz u.1;rw[d]at this⊢;exact(hn k).mono (by simp only at this⊢;omega);have:i=0:=Z;subst this;rw[d];exact R.nb;have A:Kv (3*s.n) ρ ρ':=by have:=a2.1;rw[d]at this;exact this
  refine⟨?_,λj b c e _ _ h=>Cu h (f j),λj b c e j' b' c' e' _ _ _ _ h=>Cu h (f j),λk Z1 q u=>?_,λx hx=>?_⟩;rw[d];have:=R.agr2 A;exact⟨this.agr,this.le,⟨this.sim.blk,this.sim.inj⟩,this.nb,this.val,this.wlt,this.wmem,this.fr,this.size,this.os,this.tape,this.out,this.new,this.old⟩;have Z3:nth (D q).s.t k=nth (D 0).s.t k:=(by exact BL);rw[Z3,d,hn k ρ ρ' A];exact Z4.at_ k Z1;have⟨m1,m2,m3⟩:=hM x hx;refine⟨m1,m2,λb I=>?_⟩;rw[d]at I;have⟨y,hy⟩:=Do.1 I;rw[(A b (R.nb b y hy).1).1];exact m3 b I
 exact Wi hE hX L (by rw[<-Z0,l]) hQ ops.size _ 0 a _ ρ eC (by unfold rd;exact CU List.countP_le_length eC) hJ
end
end Go.GL
/- The evaluator's environment for this seat, laid by program (genenv.py) off the dump; and the proof that it fits the program. -/
namespace Go.Proofs.YtdeaddceicfanaaGreatDoor
open Go Go.GL
variable{α:Type}{N m:Nat}
namespace GE
def nthO{α:Type}:List (Option α)->Nat->Option α
 |[],_=>θ
 |v::_,0=>v
 |_::r,i+1=>nthO r i
def nthL{α:Type}:List (List α)->Nat->List α
 |[],_=>[]
 |v::_,0=>v
 |_::r,i+1=>nthL r i
def look{α:Type}(l:List (List (Option α)))(t:Nat):Option α:=nthO (nthL l (t/20)) (t%20)
def oT:Option TD:=ξ .other
def oF:Option (Nat×Nat×ψ):=ξ (1,8,.nilFunc)
def oS:Option (Nat×Nat×ψ):=ξ (1,24,η)
def undT:List (List (Option TD)):=[[θ,θ,ξ (.int .i64),ξ (.int .i64),ξ .bool,ξ (.int .u8),θ,θ,θ,ξ .string],
 [oT,θ,ξ (.slice 9),ξ (.slice 41),ξ (.struct [(22,0),(23,1),(22,2),(22,3)]),ξ (.struct [(22,0),(23,1),(22,2),(22,3)]),θ,θ,θ,θ,ξ (.struct [(3,0),(9,1),(22,2),(22,3),(22,4),(22,5)]),ξ (.int .i64),oT],
 [θ,ξ (.struct [(22,0),(9,1),(9,2)]),θ,θ,ξ (.slice 68),ξ (.slice 93),θ,ξ (.struct [(44,0),(45,1),(45,2)]),oT,θ,oT,θ,θ,θ,θ,θ,θ,ξ (.slice 91),ξ (.slice 3),ξ (.slice 66)],
 [ξ (.slice 152),θ,ξ (.struct [(4,0),(60,1)]),θ,ξ (.struct [(3,0),(44,1),(57,2),(57,3),(44,4),(58,5),(58,6),(59,7),(62,8)]),oT,ξ (.slice 62),θ,ξ (.struct [(62,0),(62,2)]),θ,θ,θ,θ,θ,θ,θ,ξ (.slice 119)],
 [θ,ξ (.struct [(2,0),(2,1)]),θ,θ,θ,θ,θ,θ,θ,θ,θ,ξ (.struct [(4,0),(68,1)]),θ,ξ (.struct [(44,0),(91,1),(91,6)])],
 [θ,θ,θ,θ,θ,θ,θ,θ,θ,θ,θ,θ,θ,ξ (.slice 5),θ,ξ (.slice 196),θ,ξ (.struct [(4,0),(115,1)]),θ,ξ (.struct [(117,0),(117,2)])],
 [θ,θ,θ,θ,θ,θ,θ,θ,θ,ξ (.array 48 5),θ,θ,θ,θ,oT],
 [θ,θ,θ,θ,θ,θ,θ,θ,θ,θ,θ,θ,ξ (.int .u64),θ,θ,θ,θ,ξ (.struct [(60,0),(60,1)])],
 [θ,θ,θ,θ,θ,θ,θ,θ,θ,θ,θ,ξ (.struct [(4,0),(9,1),(9,2)])],
 [θ,θ,oT,θ,θ,θ,θ,θ,ξ (.struct [(152,0),(152,1),(152,2),(152,3),(4,4)]),θ,θ,θ,θ,θ,ξ (.slice 60),θ,ξ (.int .u32)],
 [θ,θ,θ,θ,θ,θ,θ,θ,θ,ξ (.array 24 5)],
 [θ,θ,ξ (.int .u64),θ,θ,θ,θ,θ,ξ (.array 20 152),ξ (.array 65 5)],
 [θ,θ,ξ (.array 64 5),θ,oT,ξ (.array 20 5),θ,θ,ξ (.array 32 5)],
 []]
def infT:List (List (Option (Nat×Nat×ψ))):=[[θ,θ,ξ (1,8,CC .i64 0),ξ (1,8,CC .i64 0),ξ (1,1,U χ),ξ (1,1,CC .u8 0),θ,θ,θ,ξ (1,16,CG ⟨⟨[]⟩⟩)],
 [ξ (1,16,.nilIface),θ,oS,oS,ξ (4,96,.agg #[η,η,η,η]),ξ (4,96,.agg #[η,η,η,η]),θ,θ,θ,θ,ξ (6,120,.agg #[CC .i64 0,CG ⟨⟨[]⟩⟩,η,η,η,η]),ξ (1,8,CC .i64 0)],
 [θ,ξ (3,56,.agg #[η,CG ⟨⟨[]⟩⟩,CG ⟨⟨[]⟩⟩]),θ,θ,oS,oS,θ,ξ (3,72,.agg #[η,η,η]),θ,θ,ξ (1,8,CH θ),θ,θ,θ,θ,θ,θ,oS,oS,oS],
 [oS,θ,ξ (2,32,.agg #[U χ,η]),θ,ξ (10,208,.agg #[CC .i64 0,η,η,η,η,η,η,η,U χ,η]),oF,oS,θ,ξ (4,64,.agg #[U χ,η,U χ,η]),θ,θ,θ,θ,θ,θ,θ,oS],
 [θ,ξ (2,16,.agg #[CC .i64 0,CC .i64 0]),θ,θ,θ,θ,θ,θ,θ,θ,θ,ξ (5,72,.agg #[U χ,U χ,η,U χ,η]),θ,ξ (11,168,.agg #[η,U χ,U χ,η,U χ,η,U χ,U χ,η,U χ,η])],
 [θ,θ,θ,θ,θ,θ,θ,θ,θ,θ,θ,θ,θ,oS,θ,oS,θ,ξ (2,32,.agg #[U χ,η]),θ,ξ (4,64,.agg #[U χ,η,U χ,η])],
 [θ,θ,θ,θ,θ,θ,θ,θ,θ,ξ (48,48,.agg ⟨CI 48 (CC .u8 0)⟩),θ,θ,θ,θ,oF],
 [θ,θ,θ,θ,θ,θ,θ,θ,θ,θ,θ,θ,ξ (1,8,CC .u64 0),θ,θ,θ,θ,ξ (2,48,.agg #[η,η])],
 [θ,θ,θ,θ,θ,θ,θ,θ,θ,θ,θ,ξ (3,40,.agg #[U χ,CG ⟨⟨[]⟩⟩,CG ⟨⟨[]⟩⟩])],
 [θ,θ,ξ (1,8,CH θ),θ,θ,θ,θ,θ,ξ (5,40,.agg #[CC .u64 0,CC .u64 0,CC .u64 0,CC .u64 0,U χ]),θ,θ,θ,θ,θ,oS,θ,ξ (1,4,CC .u32 0)],
 [θ,θ,θ,θ,θ,θ,θ,θ,θ,ξ (24,24,.agg ⟨CI 24 (CC .u8 0)⟩)],
 [θ,θ,ξ (1,8,CC .u64 0),θ,θ,θ,θ,θ,ξ (20,160,.agg ⟨CI 20 (CC .u64 0)⟩),ξ (65,65,.agg ⟨CI 65 (CC .u8 0)⟩)],
 [θ,θ,ξ (64,64,.agg ⟨CI 64 (CC .u8 0)⟩),θ,ξ (1,16,.nilIface),ξ (20,20,.agg ⟨CI 20 (CC .u8 0)⟩),θ,θ,ξ (32,32,.agg ⟨CI 32 (CC .u8 0)⟩)],
 []]
def cmpT:List (List (Option (List (TypeId×Nat)))):=[[],
 [],
 [],
 [],
 [],
 [],
 [],
 [],
 [],
 [],
 [],
 [],
 [],
 []]
open Tryz in
def fnT:List (List (Option Func)):=[[θ,θ,θ,ξ f3,ξ f4,ξ f5,ξ f6,ξ f7,ξ f8,ξ f9,ξ f10,ξ f11,ξ f12,ξ f13,ξ f14,ξ f15,ξ f16,ξ f17,ξ f18,ξ f19],
 [ξ f20,ξ f21,ξ f22,ξ f23,ξ f24,ξ f25,ξ f26,ξ f27,ξ f28,ξ f29,ξ f30,ξ f31,ξ f32,ξ f33,ξ f34,ξ f35,ξ f36,ξ f37,ξ f38,ξ f39],
 [ξ f40,ξ f41,ξ f42,ξ f43,ξ f44,ξ f45,ξ f46,ξ f47,ξ f48,ξ f49,ξ f50,ξ f51,ξ f52,ξ f53,ξ f54,ξ f55,ξ f56,ξ f57,ξ f58,ξ f59],
 [ξ f60,ξ f61,ξ f62,ξ f63,ξ f64,ξ f65,ξ f66,ξ f67,ξ f68,ξ f69,ξ f70,ξ f71,ξ f72,ξ f73,ξ f74,ξ f75,ξ f76,ξ f77,ξ f78,ξ f79],
 [ξ f80,ξ f81,ξ f82,ξ f83,ξ f84,ξ f85,ξ f86,ξ f87,ξ f88,ξ f89,ξ f90,ξ f91,ξ f92,ξ f93,ξ f94,ξ f95,ξ f96,ξ f97,ξ f98,ξ f99],
 [ξ f100,ξ f101,ξ f102,ξ f103,ξ f104,ξ f105,ξ f106,ξ f107,ξ f108,ξ f109,ξ f110,ξ f111,ξ f112,ξ f113,ξ f114,ξ f115,ξ f116,ξ f117,ξ f118,ξ f119],
 [ξ f120,ξ f121,ξ f122,ξ f123,ξ f124,ξ f125,ξ f126,ξ f127,ξ f128,ξ f129,ξ f130,ξ f131,ξ f132,ξ f133,ξ f134,ξ f135,ξ f136,ξ f137,ξ f138,ξ f139],
 [ξ f140,ξ f141,ξ f142,ξ f143,ξ f144,ξ f145,ξ f146,ξ f147,ξ f148,ξ f149,ξ f150,ξ f151,ξ f152,ξ f153,ξ f154,ξ f155,ξ f156,ξ f157,ξ f158,ξ f159],
 [ξ f160,ξ f161,ξ f162,ξ f163,ξ f164,ξ f165,ξ f166,ξ f167,ξ f168,ξ f169,ξ f170,ξ f171,θ,ξ f173,ξ f174,ξ f175,ξ f176,θ,ξ f178,ξ f179],
 [ξ f180,ξ f181,ξ f182,ξ f183,ξ f184,ξ f185,ξ f186,ξ f187,ξ f188,ξ f189,ξ f190,ξ f191,ξ f192,ξ f193,ξ f194,ξ f195,ξ f196,ξ f197,ξ f198,ξ f199],
 [ξ f200,ξ f201,ξ f202,ξ f203,ξ f204,ξ f205,ξ f206,ξ f207,ξ f208,ξ f209,ξ f210,ξ f211],
 []]
def ext(f:FuncId)(a:List ψ):Option ψ:=
 match DK f 172 with
 |true=>(match a with
  |[CC .u64 (.ofNat x),CC .u64 (.ofNat y),CC .u64 (.ofNat c)]=>(match Dd c 1 with|true=>ξ (.tuple ⟨[CC .u64 (.ofNat ((x+y+c)%18446744073709551616)),CC .u64 (.ofNat ((x+y+c)/18446744073709551616))]⟩)|false=>θ)
  |_=>θ)
 |false=>match DK f 177 with
  |true=>(match a with
   |[CC .u64 (.ofNat x),CC .u64 (.ofNat y),CC .u64 (.ofNat b)]=>(match Dd b 1 with|true=>ξ (.tuple ⟨[CC .u64 (.ofNat ((x+18446744073709551616-y-b)%18446744073709551616)),CC .u64 (.ofNat (match Dd (y+b) x with|true=>0|false=>1))]⟩)|false=>θ)
   |_=>θ)
  |false=>θ
end GE
def Kc:Env:={und:=GE.look GE.undT,inf:=GE.look GE.infT,fn:=GE.look GE.fnT,ext:=GE.ext,dT:=9,pure:=λ_=>φ,cmp:=GE.look GE.cmpT}
namespace GE
def Wj:∀(l:List (List α)) (i:Nat),O l<=i->nthL l i=[]:=by
 intro l;induction l with
 |nil=>intro i _;rfl
 |cons a l ih=>
  intro i b;cases i with
  |zero=>simp at b
  |succ i=>exact ih i (by simpa using b)
def look_lt{l:List (List (Option α))}{t:Nat}{v:α}(hm:O l=m)(h:look l t=ξ v):t<20*m:=by apply F3;intro a;unfold look at h;rw[Wj l (t/20) Z]at h;cases h
def pick{α β:Type}(a:Option α)(b:Option β):Option β:=match a with|some _=>b|none=>θ
def at_range{f g:Nat->α}(h:(DO N).map f=(DO N).map g){t:Nat}(a:t<N):f t=g t:=by have:=congrArg (λl=>l[t]?) h;simpa [a]using this
def all_range{f:Nat->Bool}(h:(DO N).all f=φ){t:Nat}(a:t<N):f t=φ:=by rw[E3]at h;exact h t (by simpa using a)
def undT_len:O undT=14:=rfl
def cmpT_len:O cmpT=14:=rfl
def infT_len:O infT=14:=rfl
def fnT_len:O fnT=12:=rfl
set_option maxRecDepth 1000000
def und_all:(DO 280).map (λt=>pick (look undT t) ((Db.underlying t).map TD.of))=(DO 280).map (look undT):=by kernel_rfl
def inf_all:(DO 280).map (λt=>pick (look infT t) ((Db.info? t).bind λi=>i.zero.map λz=>(i.size,i.bytes,z)))=(DO 280).map (look infT):=by kernel_rfl
def cmpP(t:Nat):Option (List (TypeId×Nat)):=
 match Db.underlying t with
 |some (.struct F)=>(match F.toList.all (λf=> !(f.name== "_"))&&(!Tryz.prog.stoodInHeld t&& !Tryz.prog.eqGuardType Db.depth t) with|true=>ξ (F.toList.map λf=>(f.type,f.offset))|false=>θ)
 |_=>θ
def cmp_all:(DO 280).map (λt=>pick (look cmpT t) (cmpP t))=(DO 280).map (look cmpT):=by kernel_rfl
def inf_closed:(DO 280).all (λt=>match look infT t with|some (_,_,z)=>closed z|none=>φ)=φ:=by kernel_rfl
def fld_all:(DO 280).all (λt=>match look undT t with|some (.struct fs)=>fs.all (λf=>(look infT f.1).isSome)|_=>φ)=φ:=by kernel_rfl
def fn_all:(DO 240).map (λf=>pick (look fnT f) (Db.funcs[f]?))=(DO 240).map (look fnT):=by kernel_rfl
def fn_body:(DO 240).all (λf=>match look fnT f with|some fn=>fn.body.isSome&& !(fn.name== "runtime.NumGoroutine")|none=>φ)=φ:=by kernel_rfl
def fn_code:(DO 240).all (λf=>match look fnT f with|some fn=>(match fn.body with|some c=>xf regOk c|none=>φ)|none=>φ)=φ:=by kernel_rfl
def mixed:Db.follows .mixedOrders=φ:=by kernel_rfl
def Wk(x y:Nat)(w:World):(callFunc 172 #[CC .u64 (.ofNat x),CC .u64 (.ofNat y),CC .u64 (.ofNat 0)]).run Db w=.ok (.value (.tuple ⟨[CC .u64 (.ofNat ((x+y+0)%18446744073709551616)),CC .u64 (.ofNat ((x+y+0)/18446744073709551616))]⟩)) w:=by kernel_rfl
def Wl(x y:Nat)(w:World):(callFunc 172 #[CC .u64 (.ofNat x),CC .u64 (.ofNat y),CC .u64 (.ofNat 1)]).run Db w=.ok (.value (.tuple ⟨[CC .u64 (.ofNat ((x+y+1)%18446744073709551616)),CC .u64 (.ofNat ((x+y+1)/18446744073709551616))]⟩)) w:=by kernel_rfl
def Wm(x y c:Nat)(b:c<=1)(w:World):(callFunc 172 #[CC .u64 (.ofNat x),CC .u64 (.ofNat y),CC .u64 (.ofNat c)]).run Db w=.ok (.value (.tuple ⟨[CC .u64 (.ofNat ((x+y+c)%18446744073709551616)),CC .u64 (.ofNat ((x+y+c)/18446744073709551616))]⟩)) w:=by have a:c=0\/c=1:=Z;obtain rfl|rfl:=a;exact Wk x y w;exact Wl x y w
def Wo(x y:Nat)(w:World):(callFunc 177 #[CC .u64 (.ofNat x),CC .u64 (.ofNat y),CC .u64 (.ofNat 0)]).run Db w=.ok (.value (.tuple ⟨[CC .u64 (.ofNat ((x+18446744073709551616-y-0)%18446744073709551616)),CC .u64 (.ofNat (if x<y+0 then 1 else 0))]⟩)) w:=by kernel_rfl
def Wp(x y:Nat)(w:World):(callFunc 177 #[CC .u64 (.ofNat x),CC .u64 (.ofNat y),CC .u64 (.ofNat 1)]).run Db w=.ok (.value (.tuple ⟨[CC .u64 (.ofNat ((x+18446744073709551616-y-1)%18446744073709551616)),CC .u64 (.ofNat (if x<y+1 then 1 else 0))]⟩)) w:=by kernel_rfl
def Wq(x y c:Nat)(b:c<=1)(w:World):(callFunc 177 #[CC .u64 (.ofNat x),CC .u64 (.ofNat y),CC .u64 (.ofNat c)]).run Db w=.ok (.value (.tuple ⟨[CC .u64 (.ofNat ((x+18446744073709551616-y-c)%18446744073709551616)),CC .u64 (.ofNat (match Dd (y+c) x with|true=>0|false=>1))]⟩)) w:=by
 have a:c=0\/c=1:=Z;have e:(match Dd (y+c) x with|true=>0|false=>1)=if x<y+c then 1 else 0:=by
  by_cases h:x<y+c;have:Dd (y+c) x=χ:=by
   cases hb:Dd (y+c) x with
   |false=>rfl
   |true=>have:=Da hb;omega
  rw[this,Cw h];rw[CP Z,Cv h]
 rw[e];obtain rfl|rfl:=a;exact Wo x y w;exact Wp x y w
def ext_ok(f:FuncId)(a:List ψ)(v:ψ)(h:ext f a=ξ v):(∀x∈a,closed x=φ)/\closed v=φ/\∀w,(callFunc f a.toArray).run Db w=.ok (.value v) w:=by unfold ext at h;split at h;rename_i b;have b:=DC b;subst b;split at h;rename_i x y c;split at h;rename_i hc;injection h with h;subst h;exact⟨λz d=>by simp at d;obtain rfl|rfl|rfl:=d<;>rfl,ω,λw=>Wm x y c (Da hc) w⟩;cases h;cases h;split at h;rename_i b;have b:=DC b;subst b;split at h;rename_i x y c;split at h;rename_i hc;injection h with h;subst h;exact⟨λz d=>by simp at d;obtain rfl|rfl|rfl:=d<;>rfl,ω,λw=>Wq x y c (Da hc) w⟩;cases h;cases h;cases h
end GE
def bK:EnvOk2 Kc Db where
 und t d h:=by
  have hlt:=GE.look_lt GE.undT_len h
  have e:=GE.at_range GE.und_all hlt
  rw[show GE.look GE.undT t=ξ d from h]at e
  simp only[GE.pick,En]at e
  exact e
 fld t fs h f hf:=by
  have hlt:=GE.look_lt GE.undT_len h
  have e:=GE.all_range GE.fld_all hlt
  rw[show GE.look GE.undT t=ξ (.struct fs)from h]at e
  simp only[E3]at e
  exact Do.1 (e f hf)
 inf t s b z h:=by
  have hlt:=GE.look_lt GE.infT_len h
  have e:=GE.at_range GE.inf_all hlt
  have c:=GE.all_range GE.inf_closed hlt
  rw[show GE.look GE.infT t=ξ (s,b,z)from h]at e c
  simp only[GE.pick,Option.bind_eq_some_iff,En,Prod.mk.injEq]at e
  have⟨i,h1,z',h2,h3,h4,h5⟩:=e
  subst h5
  exact⟨⟨i,h1,h3,h4,h2⟩,c⟩
 cmp t fs h:=by
  have hlt:=GE.look_lt GE.cmpT_len h
  have e:=GE.at_range GE.cmp_all hlt
  rw[show GE.look GE.cmpT t=ξ fs from h]at e
  simp only[GE.pick]at e
  unfold GE.cmpP at e
  split at e
  .rename_i F hF
   split at e
   .rename_i hc
    injection e with e
    simp only[DI,Fa,E3]at hc
    exact⟨F,hF,e.symm,λf hf=>by simpa using hc.1 f hf,hc.2.1,hc.2.2⟩
   cases e
  cases e
 get f fn h:=by
  have hlt:=GE.look_lt GE.fnT_len h
  have e:=GE.at_range GE.fn_all hlt
  rw[show GE.look GE.fnT f=ξ fn from h]at e
  exact e
 ent f fn h args w:=by
  have hlt:=GE.look_lt GE.fnT_len h
  have e:=GE.at_range GE.fn_all hlt
  have c:=GE.all_range GE.fn_body hlt
  rw[show GE.look GE.fnT f=ξ fn from h]at e c
  have e:Db.funcs[f]?=ξ fn:=e
  simp only[DI,Fa]at c
  have⟨b,hb⟩:=Do.1 c.1
  have c2:¬fn.name= "runtime.NumGoroutine" :=by simpa using c.2
  simp[callFunc,e,c2,hb]
 ext f args v h:=GE.ext_ok f args v h
 mixed:=GE.mixed
def bM:∀f a c,Kc.fn f=ξ a->a.body=ξ c->xf regOk c=φ:=λf a c h d=>by
 have b:=GE.look_lt GE.fnT_len h
 have e:=GE.all_range GE.fn_code b
 rw[show GE.look GE.fnT f=ξ a from h]at e
 simp only[d]at e
 exact e
def MS:Rel:={E:=Kc,P:=Db,ok:=λc=>xf regOk c=φ}
def Wr(L d:Nat):CalOk MS (calN Kc L d):=
 V2 (X:=MS) (reg:=regOk) bK L (λ_=>Iff.rfl) bM (λC f c e b a=>mW bK b a) d
end Go.Proofs.YtdeaddceicfanaaGreatDoor
