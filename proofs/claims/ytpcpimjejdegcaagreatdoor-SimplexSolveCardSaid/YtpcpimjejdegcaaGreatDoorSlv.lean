/-
 For every input the statement SimplexSolve returns true and leaves its arguments as they were. Conditions: the listed package-level variables hold what the program's text lays (tied).
-/
import Derived.Test.YtpcpimjejdegcaaGreatDoorSlvG
open Option renaming some→ξ
open Bool renaming true→φ,false→χ
open Go renaming Value→ψ
set_option linter.defProp false
open Go.ChangeSpec renaming witness_at→an1
open Go.DataW renaming TrodAll→aj2
open Go.Proofs.Tryz renaming checked→aa6,f3→Jh,prog→Di
open Go.Value renaming okWide→ak9,slice→Y
open Option.some renaming inj→Ej
set_option maxHeartbeats 8000000
set_option linter.unusedVariables false
set_option linter.unusedSimpArgs false
namespace Go.Proofs.YtpcpimjejdegcaaGreatDoor
open Go Go.GL Go.ChangeShapes Go.WideShapes Go.RowKit
set_option maxRecDepth 100000
theorem VC{H:Type}{enc:TypeId×ψ->H}{P:Program}{w:World}{c:Nat}{b:Nat->Bool}{e:Bool}{t:TypeId}{a:Array ψ}{f:List (DataW H)}{g:List MemPlace}(h:aj2 enc P w c b e [t] a.toList f g):
  ∃v d p,a=#[v]/\f=[d]/\g=p/\DataW.Trod enc P w c b e t v d p:=by obtain⟨v,q,d,m,p,o,i,rfl,rfl,j,l⟩:=trodAll_cons h;obtain⟨rfl,rfl,rfl⟩:=trodAll_nil l;exact⟨v,d,p,by cases a;simp_all,ω,eF,j⟩
def simplexSolve_lifted(os:Os)(b:os.Started)(H:Type)(enc:TypeId×ψ->H):
  ReturnsInHanded {} aa6 os 3 .any (λw a=>(Rows.simplexSolveSpec.pre enc Di Jh [] χ w a/\laidMet Di Nt w)/\sizedMet enc Di Jh (OpenSpec.ofChange Rows.simplexSolveSpec) χ w a)
   (Rows.simplexSolveSpec.post enc Di Jh χ φ χ χ):=by
 refine returnsInHanded_of_change_and (C:=aa6) (X:=λw _=>laidMet Di Nt w) (λ_ _ _ hh h=>h.of_heap hh) own b (by kernel_rfl) Tryz.func3
  (an1 (enc:=enc) (C:=aa6) (os:=os) (X:=λw _=>laidMet Di Nt w) χ (iH os) #[.agg #[η,η,η,η]] 8 ω (by kernel_rfl) (by kernel_rfl) (by kernel_rfl) (by kernel_rfl) (by kernel_rfl) (kx os _)) ?_
 intro W o a V u D i N _ _ Z0 _;have d:∀(j:Nat) t v,(Jh).params[j]?=ξ t->a[j]?=ξ v->ak9 Di W .any o t v:=i;have m:=N;obtain⟨p,q,K,M,rfl,a0,a1⟩:=N;have J:aj2 enc Di W 0 (λ_=>φ) φ (Jh).params.toList a.toList V p:=K;have L:DataW.TrodVars enc Di W (λ_=>φ) [] u q:=M;rw[Tryz.params3]at J d;obtain⟨l,F,_,rfl,rfl,rfl,G⟩:=VC J;obtain⟨rfl,rfl⟩:u=[]/\q=[]:=by
  cases u with
  |nil=>exact⟨ω,L⟩
  |cons g r=>exact BO L (by intro h;cases h)
 have s:Rows.simplexSolveSpec.fn H ([F]++[])={results:=[.lit (.bool φ)],args:=[F]}:=by simp[Rows.simplexSolveSpec]
 have S:∀x∈p,x.block<W.heap.size:=λx B=>m.lt x (by simpa using B);have A:∃c,l=.agg c:=(by have f:=d 0 _ l ω rfl;unfold ak9 at f;split at f;have⟨c,y,_⟩:=f;exact⟨c,y⟩;have⟨c,y,_⟩:=f;exact⟨c,y⟩;rename_i g1 g2;have:=p_lp;unfold parts at this;split at this;rename_i fs hfs;exact BO hfs (g1 fs);cases this);refine(zb3 (W:=W) 3 [l] 17 λn I Z1 R=>?_).mono λe W'⟨he,P⟩=>?_;have⟨ao,lo,co,ar,lr,cr,aw,lw,cw,au,lu,cu,p,Z3,io,ir,iw,iu⟩:=zm6 Z1 A G (R _ eF);show VF _ _ [up nm l] _ _ _;rw[Z3];exact simplexSolve_ok 0 ⟨zgv Z0,I⟩ io ir iw iu;subst he;refine⟨_,ω,_,_,_,[],p,[],m,?_,?_,?_,P.frame _,λh=>by cases h⟩;rw[s];exact trodAll_mk1 (shut_bool Tryz.underlying4 φ);rw[s];have T:Di.readableRec 25=φ:=by kernel_rfl
 have Z4:25<Di.types.size:=of_decide_eq_true (by kernel_rfl);exact trodAll_mk1 (Below.trod ei T Z4 G P λx B=>S x (by simp[B]));rw[s];rfl
theorem simplexSolve_holds:Rows.SimplexSolveSaid:=
 OpenClaim.holds_of_wide 3 Jh ω ω ω ω ω ω ω R5 ω ω ω ω ω (by kernel_rfl) Tryz.func3 simplexSolve_closed
  (of_decide_eq_true (by kernel_rfl)) (by unfold Func.isWrapper;rw[Cs (of_decide_eq_false (by kernel_rfl))];exact⟨ω,ω⟩)
  (λc a H b _=>simplexSolve_lifted c a H b)
theorem simplexSolve_card:Rows.SimplexSolveCardSaid:=
 Claim7.holds_tied_plain_at .later [] [.data,.data,.data] φ (φ, "771eca0c01e9ebb3a7f053001355a7e7ee30ae131c7cb37d47a2411a18315232") χ
  simplexSolve_holds (λ_ h=>by cases h) (by kernel_rfl) (λ_ h=>by cases h) simplexSolve_row_tie ω ⟨ω,ω⟩ (by kernel_rfl) rfl
  (λf fn hf hfn=>by
   obtain rfl:f=3:=Ej ((show Di.funcNamed Rows.simplexSolveRow.func=ξ 3 by kernel_rfl).symm.trans hf) |>.symm;obtain rfl:fn=Jh:=(Ej (Tryz.func3.symm.trans hfn)).symm;exact⟨by kernel_rfl,λj t ht=>by
    rw[Tryz.params3]at ht;obtain rfl:t=25:=by
     obtain _|j:=j
     .simpa using ht.symm
     simp at ht
    exact(show Di.wantsStandIn 25=χ by kernel_rfl)⟩)
  (by kernel_rfl)
end Go.Proofs.YtpcpimjejdegcaaGreatDoor
