/-
 For every input the statement SimplexScaling returns true and leaves its arguments as they were. Conditions: the listed package-level variables hold what the program's text lays (tied).
-/
import Derived.Test.YteoagenjaemllaaGreatDoorScaG
open Option renaming some→ξ
open Bool renaming true→φ,false→χ
open Go renaming Value→ψ
set_option linter.defProp false
open Go.ChangeSpec renaming witness_at→ao2
open Go.DataW renaming Trod→Js,TrodAll→aj9
open Go.IntKind renaming i64→ad7
open Go.Proofs.Tryz renaming checked→aa1,f3→I0,func3→ah5,params3→al8,prog→Dv,underlying3→ac4,underlying9→Jk
open Go.Value renaming int→U,okWide→Jt,slice→Y,string→CY
open Option.some renaming inj→El
set_option maxHeartbeats 8000000
set_option linter.unusedVariables false
set_option linter.unusedSimpArgs false
namespace Go.Proofs.YteoagenjaemllaaGreatDoor
open Go Go.GL Go.ChangeShapes Go.WideShapes Go.RowKit
set_option maxRecDepth 100000
theorem UQ{H:Type}{enc:TypeId×ψ->H}{P:Program}{w:World}{b:Nat}{a:Nat->Bool}{c:Bool}{t D F G:TypeId}{e:Array ψ}{u:List (DataW H)}{C:List MemPlace}(h:aj9 enc P w b a c [t,D,F,G] e.toList u C):
  ∃v o q s d f g i p j l m,e=#[v,o,q,s]/\u=[d,f,g,i]/\C=p++(j++(l++m))/\Js enc P w b a c t v d p/\Js enc P w b a c D o f j/\Js enc P w b a c F q g l/\Js enc P w b a c G s i m:=by obtain⟨v,vs,d,Z1,p,Z3,I,rfl,rfl,J,K⟩:=trodAll_cons h;obtain⟨o,Z4,f,R,j,Z0,rfl,rfl,rfl,y,L⟩:=trodAll_cons K;obtain⟨q,V,g,S,l,q2,rfl,rfl,rfl,A,M⟩:=trodAll_cons L;obtain⟨s,W,i,T,m,q3,rfl,rfl,rfl,B,N⟩:=trodAll_cons M;obtain⟨rfl,rfl,rfl⟩:=trodAll_nil N;exact⟨v,o,q,s,d,f,g,i,p,j,l,m,by cases e;simp_all,ω,cA,J,y,A,B⟩
def simplexScaling_lifted(os:Os)(m:os.Started)(H:Type)(enc:TypeId×ψ->H):
  ReturnsInHanded {} aa1 os 3 .any (λw a=>(Rows.simplexScalingSpec.pre enc Dv I0 [] χ w a/\laidMet Dv Nq w)/\sizedMet enc Dv I0 (OpenSpec.ofChange Rows.simplexScalingSpec) χ w a)
   (Rows.simplexScalingSpec.post enc Dv I0 χ φ χ χ):=by
 refine returnsInHanded_of_change_and (C:=aa1) (X:=λw _=>laidMet Dv Nq w) (λ_ _ _ hh h=>h.of_heap hh) own m (by kernel_rfl) ah5
  (ao2 (enc:=enc) (C:=aa1) (os:=os) (X:=λw _=>laidMet Dv Nq w) χ (iH os) #[.agg #[η,η,η,η],CY ⟨⟨[]⟩⟩,U .i64 0,U .i64 0] 8 ω (by kernel_rfl) (by kernel_rfl) (by kernel_rfl) (by kernel_rfl) (by kernel_rfl) (kx os _)) ?_
 intro W u a ds N R G hW _ _ hL _;have b:∀(j:Nat) t v,(I0).params[j]?=ξ t->a[j]?=ξ v->Jt Dv W .any u t v:=G;have J:=hW;obtain⟨p,q,a0,a1,rfl,ab,ac⟩:=hW;have hA:aj9 enc Dv W 0 (λ_=>φ) φ (I0).params.toList a.toList ds p:=a0;have hV:DataW.TrodVars enc Dv W (λ_=>φ) [] N q:=a1;rw[al8]at hA b;obtain⟨I,o,v2,v3,S,T,Z4,V,P,p1,p2,p3,rfl,rfl,rfl,Z3,f,l,F⟩:=UQ hA;obtain⟨rfl,rfl⟩:N=[]/\q=[]:=by
  cases N with
  |nil=>exact⟨ω,hV⟩
  |cons g r=>exact CO hV (by intro h;cases h)
 have M:Rows.simplexScalingSpec.fn H ([S,T,Z4,V]++[])={results:=[.lit (.bool φ)],args:=[S,T,Z4,V]}:=by simp[Rows.simplexScalingSpec]
 have i:∀x∈P++(p1++(p2++p3)),x.block<W.heap.size:=λx d=>J.lt x Af;have Z1:∃y,I=.agg y:=(by have f:=b 0 _ I ω rfl;unfold Jt at f;split at f;have⟨y,l,_⟩:=f;exact⟨y,l⟩;have⟨y,l,_⟩:=f;exact⟨y,l⟩;rename_i g1 g2;have:=p_lp;unfold parts at this;split at this;rename_i fs hfs;exact CO hfs (g1 fs);cases this);have B:∀x:Int,Lit.wf (Lit.int .i64 x)=φ-> -9223372036854775808<=x/\x<9223372036854775808:=λx d=>by
  have F:ad7.min<=x/\x<=ad7.max:=by simpa [Lit.wf,IntKind.has]using d
  have⟨h4,h5⟩:=F;exact⟨h4,Int.lt_of_le_of_lt h5 zd⟩
 obtain⟨x2,rfl,_,_,a9⟩:=open_int (k:=.i64) ac4 (b 2 _ v2 ω ω) l;obtain⟨x3,rfl,_,_,aa⟩:=open_int (k:=.i64) ac4 (b 3 _ v3 ω ω) F;obtain⟨c,rfl⟩:∃s:List UInt8,o=CY ⟨⟨s⟩⟩:=by
  have⟨f1,f⟩:=f;have D:Jt Dv W .any u 9 o:=b 1 _ o ω rfl;have a8:o.cells.toList=[o]:=by
   cases o<;>try rfl
   all_goals (unfold Jt at D;rw[Jk]at D;simp[Cell.okWide,Cell.ok,Jk]at D)
  rw[a8]at f;exact lM Jk f
 refine(zb3 (W:=W) 3 [I,CY ⟨⟨c⟩⟩,U .i64 x2,U .i64 x3] 17 λn Z0 a2 a3=>?_).mono λe W'⟨he,A⟩=>?_;have⟨ao,lo,co,ar,lr,cr,aw,lw,cw,au,lu,cu,p,e0,io,ir,iw,iu⟩:=zm6 a2 Z1 Z3 (a3 _ cA);show VF _ _ [up nm I,CY ⟨⟨c⟩⟩,U .i64 x2,U .i64 x3] _ _ _;rw[e0];exact simplexScaling_ok 0 ⟨zgv hL,Z0⟩ io ir iw iu c (B _ a9) (B _ aa);subst he;refine⟨_,ω,_,_,_,[],P++(p1++(p2++p3)),[],J,?_,?_,?_,A.frame _,λh=>by cases h⟩;rw[M];exact trodAll_mk1 (shut_bool Tryz.underlying4 φ);rw[M];have a4:Dv.readableRec 25=φ:=by kernel_rfl
 have a6:25<Dv.types.size:=of_decide_eq_true (by kernel_rfl);have a5:Dv.readableRec 9=φ:=by kernel_rfl
 have a7:9<Dv.types.size:=of_decide_eq_true (by kernel_rfl);have K:Dv.readableRec 3=φ:=by kernel_rfl
 have L:3<Dv.types.size:=of_decide_eq_true (by kernel_rfl);exact⟨P,_,Below.trod OS a4 a6 Z3 A λx d=>i x (by simp[d]),trodAll_mk3 (Below.trod OS a5 a7 f A λx d=>i x (by simp[d])) (Below.trod OS K L l A λx d=>i x (by simp[d])) (Below.trod OS K L F A λx d=>i x (by simp[d])),ω⟩;rw[M];rfl
theorem simplexScaling_holds:Rows.SimplexScalingSaid:=
 OpenClaim.holds_of_wide 3 I0 ω ω ω ω ω ω ω R5 ω ω ω ω ω (by kernel_rfl) ah5 simplexScaling_closed
  (of_decide_eq_true (by kernel_rfl)) (by unfold Func.isWrapper;rw[CP (of_decide_eq_false (by kernel_rfl))];exact⟨ω,ω⟩)
  (λc a H b _=>simplexScaling_lifted c a H b)
theorem simplexScaling_card:Rows.SimplexScalingCardSaid:=
 Claim7.holds_tied_plain_at .later [] [.data,.data,.data] φ (φ, "79ff9aacd39785e6fdbb59e9627439b269af72f9f92eb023e161474c2317add3") χ
  simplexScaling_holds (λ_ h=>by cases h) (by kernel_rfl) (λ_ h=>by cases h) simplexScaling_row_tie ω ⟨ω,ω⟩ (by kernel_rfl) rfl
  (λf fn hf hfn=>by
   obtain rfl:f=3:=El ((show Dv.funcNamed Rows.simplexScalingRow.func=ξ 3 by kernel_rfl).symm.trans hf) |>.symm;obtain rfl:fn=I0:=(El (ah5.symm.trans hfn)).symm;exact⟨by kernel_rfl,λj t ht=>by
    rw[al8]at ht;have h3:t=25\/t=9\/t=3:=by
     obtain _|_|_|_|j:=j
     .left;simpa using ht.symm
     .right;left;simpa using ht.symm
     .right;right;simpa using ht.symm
     .right;right;simpa using ht.symm
     simp at ht
    obtain rfl|rfl|rfl:=h3
    .exact(show Dv.wantsStandIn 25=χ by kernel_rfl)
    .exact(show Dv.wantsStandIn 9=χ by kernel_rfl)
    .exact(show Dv.wantsStandIn 3=χ by kernel_rfl)⟩)
  (by kernel_rfl)
end Go.Proofs.YteoagenjaemllaaGreatDoor
