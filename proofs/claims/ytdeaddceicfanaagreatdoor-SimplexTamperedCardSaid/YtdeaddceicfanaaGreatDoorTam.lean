/-
 For every input the statement SimplexTampered returns true and leaves its arguments as they were. Conditions: the listed package-level variables hold what the program's text lays (tied).
-/
import Derived.Test.YtdeaddceicfanaaGreatDoorTamG
open Option renaming some→ξ
open Bool renaming true→φ,false→χ
open Go renaming Value→ψ
set_option linter.defProp false
open Go.ChangeSpec renaming witness_at→an8
open Go.DataW renaming Trod→Je,TrodAll→ak0
open Go.IntKind renaming i64→ae1
open Go.Proofs.Tryz renaming checked→ab0,f3→Jf,prog→Db
open Go.Value renaming int→CC,okWide→Jg,slice→Y,string→CG
open Option.some renaming inj→Eb
set_option maxHeartbeats 8000000
set_option linter.unusedVariables false
set_option linter.unusedSimpArgs false
namespace Go.Proofs.YtdeaddceicfanaaGreatDoor
open Go Go.GL Go.ChangeShapes Go.WideShapes Go.RowKit
set_option maxRecDepth 100000
theorem Vg{H:Type}{enc:TypeId×ψ->H}{P:Program}{w:World}{b:Nat}{a:Nat->Bool}{c:Bool}{t D F G:TypeId}{e:Array ψ}{u:List (DataW H)}{C:List MemPlace}(h:ak0 enc P w b a c [t,D,F,G] e.toList u C):
  ∃v o q s d f g i p j l m,e=#[v,o,q,s]/\u=[d,f,g,i]/\C=p++(j++(l++m))/\Je enc P w b a c t v d p/\Je enc P w b a c D o f j/\Je enc P w b a c F q g l/\Je enc P w b a c G s i m:=by obtain⟨v,vs,d,Z1,p,Z3,I,rfl,rfl,J,K⟩:=trodAll_cons h;obtain⟨o,Z4,f,R,j,Z0,rfl,rfl,rfl,y,L⟩:=trodAll_cons K;obtain⟨q,V,g,S,l,q2,rfl,rfl,rfl,A,M⟩:=trodAll_cons L;obtain⟨s,W,i,T,m,q3,rfl,rfl,rfl,B,N⟩:=trodAll_cons M;obtain⟨rfl,rfl,rfl⟩:=trodAll_nil N;exact⟨v,o,q,s,d,f,g,i,p,j,l,m,by cases e;simp_all,ω,eC,J,y,A,B⟩
def simplexTampered_lifted(os:Os)(o:os.Started)(H:Type)(enc:TypeId×ψ->H):
  ReturnsInHanded {} ab0 os 3 .any (λw a=>(Rows.simplexTamperedSpec.pre enc Db Jf [] χ w a/\laidMet Db Nq w)/\sizedMet enc Db Jf (OpenSpec.ofChange Rows.simplexTamperedSpec) χ w a)
   (Rows.simplexTamperedSpec.post enc Db Jf χ φ χ χ):=by
 refine returnsInHanded_of_change_and (C:=ab0) (X:=λw _=>laidMet Db Nq w) (λ_ _ _ hh h=>h.of_heap hh) own o (by kernel_rfl) Tryz.func3
  (an8 (enc:=enc) (C:=ab0) (os:=os) (X:=λw _=>laidMet Db Nq w) χ (iH os) #[.agg #[η,η,η,η],υ 0,υ 0,CG ⟨⟨[]⟩⟩] 8 ω (by kernel_rfl) (by kernel_rfl) (by kernel_rfl) (by kernel_rfl) (by kernel_rfl) (kx os _)) ?_
 intro W y a ds N R G hW _ _ hL _;have b:∀(j:Nat) t v,(Jf).params[j]?=ξ t->a[j]?=ξ v->Jg Db W .any y t v:=G;have J:=hW;obtain⟨p,q,a0,a1,rfl,ab,ac⟩:=hW;have hA:ak0 enc Db W 0 (λ_=>φ) φ (Jf).params.toList a.toList ds p:=a0;have hV:DataW.TrodVars enc Db W (λ_=>φ) [] N q:=a1;rw[Tryz.params3]at hA b;obtain⟨I,v1,v2,u,S,T,Z4,V,P,p1,p2,p3,rfl,rfl,rfl,Z3,f,m,i⟩:=Vg hA;obtain⟨rfl,rfl⟩:N=[]/\q=[]:=by
  cases N with
  |nil=>exact⟨ω,hV⟩
  |cons g r=>exact Cu hV (by intro h;cases h)
 have M:Rows.simplexTamperedSpec.fn H ([S,T,Z4,V]++[])={results:=[.lit (.bool φ)],args:=[S,T,Z4,V]}:=by simp[Rows.simplexTamperedSpec]
 have l:∀x∈P++(p1++(p2++p3)),x.block<W.heap.size:=λx d=>J.lt x Aq;have Z1:∃A,I=.agg A:=(by have f:=b 0 _ I ω rfl;unfold Jg at f;split at f;have⟨A,m,_⟩:=f;exact⟨A,m⟩;have⟨A,m,_⟩:=f;exact⟨A,m⟩;rename_i g1 g2;have:=p_lp;unfold parts at this;split at this;rename_i fs hfs;exact Cu hfs (g1 fs);cases this);have D:∀x:Int,Lit.wf (Lit.int .i64 x)=φ-> -9223372036854775808<=x/\x<9223372036854775808:=λx d=>by
  have i:ae1.min<=x/\x<=ae1.max:=by simpa [Lit.wf,IntKind.has]using d
  have⟨h4,h5⟩:=i;exact⟨h4,Int.lt_of_le_of_lt h5 zd⟩
 obtain⟨x1,rfl,_,_,a9⟩:=open_int (k:=.i64) Tryz.underlying3 (b 1 _ v1 ω ω) f;obtain⟨x2,rfl,_,_,aa⟩:=open_int (k:=.i64) Tryz.underlying3 (b 2 _ v2 ω ω) m;obtain⟨c,rfl⟩:∃s:List UInt8,u=CG ⟨⟨s⟩⟩:=by
  have⟨f3,i⟩:=i;have F:Jg Db W .any y 9 u:=b 3 _ u ω rfl;have a8:u.cells.toList=[u]:=by
   cases u<;>try rfl
   all_goals (unfold Jg at F;rw[Tryz.underlying9]at F;simp[Cell.okWide,Cell.ok,Tryz.underlying9]at F)
  rw[a8]at i;exact lM Tryz.underlying9 i
 refine(zb3 (W:=W) 3 [I,υ x1,υ x2,CG ⟨⟨c⟩⟩] 17 λn Z0 a2 a3=>?_).mono λe W'⟨he,B⟩=>?_;have⟨ao,lo,co,ar,lr,cr,aw,lw,cw,au,lu,cu,p,e0,io,ir,iw,iu⟩:=zm6 a2 Z1 Z3 (a3 _ eC);show VF _ _ [up nm I,υ x1,υ x2,CG ⟨⟨c⟩⟩] _ _ _;rw[e0];exact simplexTampered_ok 0 ⟨zgv hL,Z0⟩ io ir iw iu (D _ a9) (D _ aa) c;subst he;refine⟨_,ω,_,_,_,[],P++(p1++(p2++p3)),[],J,?_,?_,?_,B.frame _,λh=>by cases h⟩;rw[M];exact trodAll_mk1 (shut_bool Tryz.underlying4 φ);rw[M];have a4:Db.readableRec 25=φ:=by kernel_rfl
 have a6:25<Db.types.size:=of_decide_eq_true (by kernel_rfl);have K:Db.readableRec 3=φ:=by kernel_rfl
 have L:3<Db.types.size:=of_decide_eq_true (by kernel_rfl);have a5:Db.readableRec 9=φ:=by kernel_rfl
 have a7:9<Db.types.size:=of_decide_eq_true (by kernel_rfl);exact⟨P,_,Below.trod ei a4 a6 Z3 B λx d=>l x (by simp[d]),trodAll_mk3 (Below.trod ei K L f B λx d=>l x (by simp[d])) (Below.trod ei K L m B λx d=>l x (by simp[d])) (Below.trod ei a5 a7 i B λx d=>l x (by simp[d])),ω⟩;rw[M];rfl
theorem simplexTampered_holds:Rows.SimplexTamperedSaid:=
 OpenClaim.holds_of_wide 3 Jf ω ω ω ω ω ω ω R5 ω ω ω ω ω (by kernel_rfl) Tryz.func3 simplexTampered_closed
  (of_decide_eq_true (by kernel_rfl)) (by unfold Func.isWrapper;rw[Cv (of_decide_eq_false (by kernel_rfl))];exact⟨ω,ω⟩)
  (λc a H b _=>simplexTampered_lifted c a H b)
theorem simplexTampered_card:Rows.SimplexTamperedCardSaid:=
 Claim7.holds_tied_plain_at .later [] [.data,.data,.data] φ (φ, "ffc3a6be03bfa06b30613ea97f3871d2772a58193fdf1ed1c2bd602bf69f3673") χ
  simplexTampered_holds (λ_ h=>by cases h) (by kernel_rfl) (λ_ h=>by cases h) simplexTampered_row_tie ω ⟨ω,ω⟩ (by kernel_rfl) rfl
  (λf fn hf hfn=>by
   obtain rfl:f=3:=Eb ((show Db.funcNamed Rows.simplexTamperedRow.func=ξ 3 by kernel_rfl).symm.trans hf) |>.symm;obtain rfl:fn=Jf:=(Eb (Tryz.func3.symm.trans hfn)).symm;exact⟨by kernel_rfl,λj t ht=>by
    rw[Tryz.params3]at ht;have h3:t=25\/t=3\/t=9:=by
     obtain _|_|_|_|j:=j
     .left;simpa using ht.symm
     .right;left;simpa using ht.symm
     .right;left;simpa using ht.symm
     .right;right;simpa using ht.symm
     simp at ht
    obtain rfl|rfl|rfl:=h3
    .exact(show Db.wantsStandIn 25=χ by kernel_rfl)
    .exact(show Db.wantsStandIn 3=χ by kernel_rfl)
    .exact(show Db.wantsStandIn 9=χ by kernel_rfl)⟩)
  (by kernel_rfl)
end Go.Proofs.YtdeaddceicfanaaGreatDoor
