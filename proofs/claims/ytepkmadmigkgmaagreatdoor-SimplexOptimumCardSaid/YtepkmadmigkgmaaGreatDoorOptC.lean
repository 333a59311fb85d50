import Derived.KernelRfl
import Derived.Test.YtepkmadmigkgmaaGreatDoorOptB
open Bool renaming and_eq_true→AA,false_eq_true→A1,not_eq_true'→BT,not_false→Df,not_true→Dx
open Classical renaming byContradiction→tp,not_not→DJ
open Go.GL renaming isAgg→CI
open Go.IntKind renaming wrap→Ai
open Go.Value renaming bool→jx,int→gZ,pointer→mo,slice→gS,string→jy
open Int renaming eq_ofNat_of_zero_le→Fx,gcd→Hy,mul_ediv_cancel_left→D5,mul_neg_of_neg_of_pos→Fe,mul_nonneg→HE,mul_one→Hj,mul_pos→Ed,natAbs_mul→AF,natAbs_natCast→qe,natAbs_neg→AM,natAbs_of_nonneg→DN,natCast_mul→Br,neg_neg→Dk,not_lt→FB,ofNat_dvd_left→CA,ofNat_natAbs_of_nonpos→CU,tdiv_eq_ediv_of_dvd→Di,tdiv_one→C7,toNat_natCast→A9,zero_mul→C8
open List renaming all_eq_true→BP,append_assoc→Ak,append_nil→Am,cons_append→Es,dropWhile_cons→Gf,drop_drop→DM,drop_eq_nil_of_le→B3,drop_left'→D7,drop_length→BE,drop_take→FT,drop_zero→Av,getElem?_append_left→AG,getElem?_append_right→ux,getElem?_eq_getElem→kF,getElem?_eq_some_iff→nN,getElem?_map→As,isEmpty_iff→G5,length→gP,length_append→k0,length_cons→Ao,length_drop→sa,length_eq_one_iff→Dp,length_eq_zero_iff→vT,length_nil→C3,length_replicate→ru,length_singleton→nP,length_take→sn,map_append→AP,map_cons→C9,map_nil→FF,mem_cons→Ad,mem_cons_self→AR,mem_map→AZ,mem_of_getElem?→mp,mem_of_mem_drop→Bq,mem_of_mem_take→AB,mem_singleton→qq,nil_append→Au,not_mem_nil→og,replicate→ns,replicate_append_replicate→Em,replicate_succ→Dd,replicate_zero→CJ,set_append_right→A4,tail_cons→HG,takeWhile_append_dropWhile→Dc,takeWhile_cons→EX,take_append_drop→Bm,take_left'→Hq,take_length→xd,take_take→Ej
open Nat renaming Coprime→C6,add_assoc→EB,add_comm→Bj,add_mul→An,add_sub_cancel→BM,add_zero→AJ,beq→AD,ble→Ag,ble_eq_true_of_le→oo,coprime_div_gcd_div_gcd→E0,div_add_mod→AE,div_eq_of_lt→Cz,div_le_self→A3,div_lt_iff_lt_mul→Bk,eq_of_beq_eq_true→Ay,eq_zero_or_pos→BN,gcd→rp,gcd_comm→Cp,gcd_dvd_left→B5,gcd_dvd_right→B9,gcd_le_left→ER,gcd_mul_left→Et,gcd_one_right→Fo,gcd_pos_of_pos_left→CH,gcd_pos_of_pos_right→A6,gcd_zero_right→CS,le_mul_of_pos_right→BG,le_of_lt→Bh,le_sub_one_of_lt→FX,le_succ→Al,le_trans→Aa,lt_of_le_of_lt→Aj,lt_of_lt_of_le→Af,lt_or_ge→Bi,lt_succ_self→B4,lt_trans→EZ,min_eq_left→AN,mod_eq_of_lt→Ab,mod_lt→Az,mul_add→Ap,mul_assoc→Ah,mul_comm→pe,mul_div_cancel'→CK,mul_div_cancel_left→BX,mul_le_mul→Ar,mul_le_mul_left→s9,mul_le_mul_right→o0,mul_left_comm→Be,mul_lt_mul''→Dh,mul_lt_mul_of_pos_right→Ci,mul_one→AH,mul_pos→CP,mul_succ→FG,mul_zero→Bp,not_succ_le_zero→FZ,one_le_div_iff→Gx,one_mul→BR,pow_add→Bf,pow_le_pow_right→sN,pow_mul→Hi,pow_pos→AW,pow_succ→Ac,pow_zero→BL,sub_self→AO,succ_mul→Bo,two_pow_pos→D8,zero_add→sb,zero_le→CO,zero_mul→Bg
open Nat.Coprime renaming coprime_dvd_left→ES,coprime_dvd_right→CE,gcd_mul_left_cancel_right→DT,mul_left→EJ,mul_right→Eo
open Option.some renaming injEq→Ei
open Prod.mk renaming injEq→BQ
open Rat renaming lt_iff→Gy,normalize_eq→DU,not_lt→CV,num_eq_zero→Cr
open UInt8 renaming ofNat→Bd,toNat_inj→EU
set_option maxHeartbeats 8000000
set_option linter.unusedVariables false
set_option linter.unusedSimpArgs false
namespace Go.Proofs.YtepkmadmigkgmaaGreatDoor
open Go Go.GL
variable {n cap len off top bt c' c1 c2 cX l1 l2 sz lo P U V b l j m r N d:Nat}{h:HF}{ik' ik:IntKind}{ops:List Oper}{ty e:TypeId}{hi x:Operand}{a1 a2:Option Addr}{z:Value}{A C Z X w:List Nat}{t:TF}{Q:SV→Prop}{o:Oper}
section
variable {X:CtxF}{r:List Oper}{d:Tmp}
theorem rt {lo:Operand}{j s:Int}(m a:Nat)(f:Za X ops t o d (o.op=.slice ty x (some lo) (some hi) none∧X.E.und ty=some (.slice e)∧X.E.inf e=some (sz,bt,z)∧evF t x=gS (some ⟨b,off,none⟩) len cap∧evF t lo=gZ ik j∧evF t hi=gZ ik' s))(hm:j=(m:Int))(p:s=(a:Int))(J:m≤a∧a≤cap∧m<cap)
  (k:EO X ops r ⟨upd t d (gS (some ⟨b,off+m*sz,none⟩) (a-m) (cap-m)),h,n,w⟩ Q):EO X ops (o::r) ⟨t,h,n,w⟩ Q:=by
 obtain ⟨f,D,G,q,H,g,I,F,i⟩:=f;refine zS ⟨f,D,G,(by rw [q];rfl)⟩ ?_ k;rw [q];subst hm p;show xc X.E ty (evF t x) (some (evF t lo)) (some (evF t hi))=_;rw [I,F,i];have v:(0:Int)≤(a:Int)∧(a:Int)≤cap:=zo;have u:(0:Int)≤(m:Int)∧(m:Int)≤a:=zo;have c:Ag cap m=false:=by
  cases c:Ag cap m with
  |false=>rfl
  |true=>have:=Nat.le_of_ble_eq_true c;omega
 have y:(gro b&&(Ag 1 m&&Ag cap m))=false:=by rw [c];simp
 have B:offA cap m sz ⟨b,off,none⟩=⟨b,off+m*sz,none⟩:=by
  unfold offA;have:AD cap m=false:=by
   cases c:AD cap m with
   |false=>rfl
   |true=>have:=Ay c;omega
  rw [this,wO]
 simp only [xc,H,g,bnd,eS v,eS u,A9,y,B]
end
theorem dP {h:HF}{n:Nat}{P S:List Nat}(hb:b<3*n)(c:h b=some (.row (u64s (P++(Z++S))) e))(a:gP Z≤cap):Sl h n 1 (gS (some ⟨b,gP P,none⟩) (gP Z) cap) (u64s Z):=by
 refine .at_ hb c rfl a (by rw [zL];simp only [k0];omega) ?_;rw [rf,re,D7 rfl,AH,Hq rfl]
theorem kg {P S D:List Nat}{x:Nat}(d:Nat)(hx:Z[gP D]?=some x):(P++((D++Z.drop (gP D))++S)).set (gP P+gP D) d=P++(((D++[d])++Z.drop (gP (D++[d])))++S):=by
 have a:gP D<gP Z:=(nN.1 hx).1;rw [A4 _ _ zo,show (gP P)+gP D-gP P=gP D from zo,List.set_append_left _ _ (by rw [k0,sa];omega),tg d hx]
theorem qW {v w:Nat}(a:v<18446744073709551616)(c:w<18446744073709551616):v*w≤340282366920938463426481119284349108225:=Aa (Ar (FX a) (FX c)) zd
theorem be {W z v w c s:Nat}(a:V+c*P=U+W*w)(f:18446744073709551616*c'+s=z+v*w+c):V+P*s+c'*(P*18446744073709551616)=U+P*z+(W+P*v)*w:=by
 have:P*(18446744073709551616*c'+s)=P*(z+v*w+c):=by rw [f]
 rw [Ap,Ap,Ap,←Ah] at this;rw [pe c' (P*18446744073709551616),An,Ah P v w];rw [pe c P] at a;omega
theorem li (k:Nat){h:HF}{n cZ:Nat}{F:Option Addr}{P S X:List Nat}{w:Nat}(hb:b<3*n)(R:h b=some (.row (u64s (P++(Z++S))) e))(ad:gP Z≤cZ)(hZ:WdD Z)(J:Sl h n 1 (gS F l cX) (u64s X))(hX:WdD X)(ho:Off b (gS F l cX))(hl:gP Z=gP X)(ac:gP X<1000000000)(i:w<18446744073709551616):
  CF (cal (k+2)) 184 [gS (some ⟨b,gP P,none⟩) (gP Z) cZ,gS F l cX,gZ .u64 (w:Int)] h n fun v m n' W=>∃(L:List Nat) (c:Nat),v=gZ .u64 (c:Int)∧c<18446744073709551616∧RowW n h b e m n' W (P++(L++S))∧WdD L∧gP L=gP Z∧wv L+c*18446744073709551616^gP Z=wv Z+wv X*w:=by
 refine rT (fn:=Tryz.f184) R4 ?_;have a6:=J.lenW;subst a6;refine Zd ?_;refine Zo ?_;refine ye (α:=List Nat×Nat) (fun z=>[(0,gS (some ⟨b,gP P,none⟩) (gP Z) cZ),(2,gZ .u64 (w:Int)),(7,gZ .u64 (z.2:Int)),(14,gS F (gP X) cX),(15,gZ .i64 (gP X:Int)),(16,gZ .i64 (gP z.1:Int))])
  (fun z m n' W=>n=n'∧(∀x∈W,x=b)∧ExtT n b h m∧(W=[]→m=h)∧m b=some (.row (u64s (P++((z.1++Z.drop (gP z.1))++S))) e)∧gP z.1≤gP X∧WdD z.1∧z.2<18446744073709551616∧wv z.1+z.2*18446744073709551616^gP z.1=wv (Z.take (gP z.1))+wv (X.take (gP z.1))*w) (fun z=>gP X-gP z.1)
  ([],0) ⟨rfl,rfl,rfl,rfl,rfl,rfl,eT⟩ ⟨rfl,fun x u=>eN u og,ExtT.refl _ _ _,fun _=>rfl,R,gH,WdD.nil,by show (0:Nat)<_;decide,by simp [wv,dv]⟩ (by show gP X-0<LL;unfold LL;omega) ?_
 rintro ⟨D,c⟩ t h1 _ W ⟨rfl,hW,B,ab,g,hD,q,hc,G⟩;simp only at g hD q hc G;refine zN ?_;by_cases hDX:gP D=gP X
 ·refine Zp ?_;have a0:Z.drop (gP D)=[]:=by rw [hDX,←hl,BE]
  rw [a0,Am] at g;rw [hDX,xd,←hl,xd] at G;have O:∃(L:List Nat) (c':Nat),gZ .u64 (c:Int)=gZ .u64 (c':Int)∧c'<18446744073709551616∧RowW n h b e h1 n W (P++(L++S))∧WdD L∧gP L=gP Z∧wv L+c'*18446744073709551616^gP Z=wv Z+wv X*w:=⟨D,c,rfl,hc,⟨hW,rfl,B,g⟩,q,zo,G⟩;refine ⟨rfl,[gZ .u64 (c:Int)],rfl,O,fun i=>?_⟩;have i:W=[]:=i;subst i;rw [ab rfl] at O;exact O
 obtain ⟨v,T⟩:∃x,X[gP D]?=some x:=⟨X[gP D]'zo,kF zo⟩;obtain ⟨z,H⟩:∃x,Z[gP D]?=some x:=⟨Z[gP D]'zo,kF zo⟩;have M:=hX.get T;have ae:=hZ.get H;have s:(D++Z.drop (gP D)).length=gP Z:=by rw [k0,sa];omega
 have K:=dP (cap:=cZ) hb g zo;rw [s] at K;have aa:=qW M i;refine Zr ?_;refine yE (f:=fun d:Nat=>gZ .u64 (d:Int)) (j:=gP D) R7 (J.extW B ho) R2 T (fun _=>rfl) R4 fun _=>?_;refine Zm ?_;refine yi _ R5 (pC k h1 n M i) ?_;rintro _ rfl;obtain ⟨p,hp⟩:∃p,p=v*w:=⟨_,rfl⟩;rw [←hp] at aa ⊢;obtain ⟨hi,a5⟩:∃x,x=p/18446744073709551616:=⟨_,rfl⟩;obtain ⟨Y,a7⟩:∃x,x=p%18446744073709551616:=⟨_,rfl⟩;rw [←a5,←a7];refine Zm ?_;refine vt (x:=Y) (y:=c) (c:=0) R5 zd ?_;obtain ⟨s1,a8⟩:∃x,x=(Y+c+0)%18446744073709551616:=⟨_,rfl⟩;obtain ⟨c1,a3⟩:∃x,x=(Y+c+0)/18446744073709551616:=⟨_,rfl⟩;rw [←a8,←a3];refine Zu ?_;refine yT (a:=hi) (b:=c1) R6 zo ?_;refine Zm ?_;refine yE (f:=fun d:Nat=>gZ .u64 (d:Int)) (j:=gP D) R7 K R2 (uy H) (fun _=>rfl) R4 fun _=>?_;repeat refine zR ?_
 refine vt (x:=z) (y:=s1) (c:=0) R5 zd ?_;obtain ⟨I,a9⟩:∃x,x=(z+s1+0)%18446744073709551616:=⟨_,rfl⟩;obtain ⟨c2,a4⟩:∃x,x=(z+s1+0)/18446744073709551616:=⟨_,rfl⟩;rw [←a9,←a4];repeat refine zR ?_
 refine yG (j:=gP D) (off:=gP P) (v:=gZ .u64 (I:Int)) R8 rfl ⟨zo,by rw [zL,k0,k0,s];omega⟩ g hb (fun _=>rfl) R3 (fun _=>rfl) rfl fun _=>?_;rw [yk,kg _ H];refine Zu ?_;refine yT (a:=hi+c1) (b:=c2) R6 zo ?_;refine Zo ?_;refine goOn (D++[I],hi+c1+c2) (by show gP X-gP (D++[I])<gP X-gP D;rw [k0,nP];omega) ⟨rfl,rfl,rfl,rfl,rfl,by show gZ .i64 _=gZ .i64 _;rw [k0];rfl,eT⟩ ⟨rfl,fun x u=>by
  rcases Ad.1 u with rfl|u
  ·rfl
  ·exact hW x u,fun y hy N=>(zm N).trans (B y hy N),fun h=>(by cases h),zg _ _ _,by show gP (D++[I])≤_;rw [k0,nP];omega,WdD.snoc q zo,by show hi+c1+c2<_;omega,?_⟩
 simp only;rw [k0,nP,yO,zQ T,zQ H,Ac];exact be G (by rw [←hp];omega)
theorem za8 {P X L:List Nat}{w c:Nat}(a:gP L=gP Z)(f:wv L+c*18446744073709551616^gP Z=wv Z+wv X*w):wv (P++(L++[c]))=wv (P++Z)+wv X*(18446744073709551616^gP P*w):=by
 rw [wZ,wZ P Z,yO,a,pe _ c,f,Ap,Be];omega
theorem fV (k:Nat){h:HF}{n:Nat}(H:Sl h n 1 (gS a1 l1 c1) (u64s A))(I:Sl h n 1 (gS a2 l2 c2) (u64s C))(nA:NW A)(nC:NW C)(hb:gP A<100000000∧gP C<100000000)(a0:gP A<40∨gP C<40):
  CF (cal (k+3)) 152 [gS a1 l1 c1,gS a2 l2 c2] h n fun v s u w=>∃L,ResW n h v s u w L∧wv L=wv A*wv C∧zoh n v (gS a1 l1 c1) (gS a2 l2 c2):=by
 refine zw (fn:=Tryz.f152) R4 ?_;have e1:=H.lenW;have e2:=I.lenW;subst e1 e2;refine Zd ?_;refine zM ?_;refine st_I (ik:=.i64) (a:=(gP A:Int)) R5 ?_;refine zM ?_;refine st_I (ik:=.i64) (a:=(gP C:Int)) R5 ?_;refine lW R6 ?_;simp only [yu,xg,zK,yY];refine yj (α:=(Option Addr×Nat×List Nat)×(Option Addr×Nat×List Nat)) (fun z=>[(0,gS z.1.1 (gP z.1.2.2) z.1.2.1),(1,gS z.2.1 (gP z.2.2.2) z.2.2.1)]) (fun z s u w=>h=s∧n=u∧w=[]∧Sl h n 1 (gS z.1.1 (gP z.1.2.2) z.1.2.1) (u64s z.1.2.2)∧Sl h n 1 (gS z.2.1 (gP z.2.2.2) z.2.2.1) (u64s z.2.2.2)∧NW z.1.2.2∧NW z.2.2.2∧gP z.2.2.2≤gP z.1.2.2∧gP z.2.2.2<40∧gP z.1.2.2<100000000∧wv z.1.2.2*wv z.2.2.2=wv A*wv C∧(gS z.1.1 (gP z.1.2.2) z.1.2.1=gS a1 (gP A) c1∨gS z.1.1 (gP z.1.2.2) z.1.2.1=gS a2 (gP C) c2)) ?_ ?_
 ·by_cases hlt:gP A<gP C
  ·rw [ze (by show jx _=_;rw [eH zo])];refine Zd ?_;exact zA ((a2,c2,C),(a1,c1,A)) ⟨rfl,rfl,eT⟩ ⟨rfl,rfl,rfl,I,H,nC,nA,by show gP A≤gP C;omega,by show gP A<40;omega,hb.2,pe _ _,.inr rfl⟩
  rw [za (by show jx _=_;rw [cA zo])];refine zN ?_;exact zA ((a1,c1,A),(a2,c2,C)) ⟨rfl,rfl,eT⟩ ⟨rfl,rfl,rfl,H,I,nA,nC,by show gP C≤gP A;omega,by show gP C<40;omega,hb.1,rfl,.inl rfl⟩
 rintro ⟨⟨a,c,X⟩,⟨a',c',Y⟩⟩ t _ _ _ ⟨rfl,rfl,rfl,K,M,nX,nY,a8,S,a7,q,hv⟩;simp only at K M nX nY a8 S a7 q hv;rw [←q];clear q a0 hb H I nA nC;refine Ze ?_;refine st_I (ik:=.i64) (a:=(gP X:Int)) R5 ?_;refine uI (a:=(gP X:Int)) (b:=1) R6 zo ?_;refine st_I (ik:=.i64) (a:=((gP X:Int)+1).tdiv 2) ⟨rfl,rfl,rfl,rfl,(by show some (gZ .i64 (Ai .i64 _))=_;rw [xj (by have:=Int.tdiv_nonneg (a:=(gP X:Int)+1) (b:=2) zo zo;have:=Int.tdiv_le_self (a:=(gP X:Int)+1) (b:=2) zo;omega)])⟩ ?_;refine Zb ?_;by_cases hY0:gP Y=0
 ·refine Zq ?_;exact retH _ ⟨rfl,(zi rfl),rfl⟩ ⟨[],⟨rfl,eU,Ext.refl _ _,.nil (.inl rfl),NW.nil⟩,by rw [vT.1 hY0];rfl,.inl trivial⟩
 refine Zg ?_;simp only [yu,xg,zK,yY];refine yj (α:=Bool) (fun z=>[(0,gS a (gP X) c),(1,gS a' (gP Y) c'),(32,jx z)]) (fun z s u w=>h=s∧n=u∧w=[]∧(z=true→wv Y=1)) ?_ ?_
 ·by_cases hY1:gP Y=1
  ·obtain ⟨y,rfl⟩:=Dp.1 hY1;rw [show [y].length=1 from rfl] at M ⊢;refine Zj ?_;refine yE (f:=fun d:Nat=>gZ .u64 (d:Int)) (l:=[y]) (j:=0) R7 M ⟨rfl,gN⟩ rfl (fun _=>rfl) R4 fun _=>?_;by_cases hy:y=1
   ·refine Zb ?_;exact zA true ⟨rfl,rfl,rfl,eT⟩ ⟨rfl,rfl,rfl,fun _=>by rw [pP,hy]⟩
   refine Zb ?_;exact zA false ⟨rfl,rfl,rfl,eT⟩ ⟨rfl,rfl,rfl,fun h=>by cases h⟩
  refine Zd ?_;exact zA false ⟨rfl,rfl,rfl,eT⟩ ⟨rfl,rfl,rfl,fun h=>by cases h⟩
 rintro z t _ _ _ ⟨rfl,rfl,rfl,hz⟩;cases z with
 |true=>
  rw [ze rfl];refine Zd ?_;exact retH _ ⟨rfl,(zi rfl),rfl⟩ ⟨X,⟨rfl,eU,Ext.refl _ _,K,nX⟩,by rw [hz rfl,AH],.inr hv⟩
 |false=>
 rw [za rfl];clear hz;refine Zd ?_;rw [ze rfl];refine Zj ?_;refine vB (len:=gP X+gP Y) (cap:=gP X+gP Y) R9 zo ?_;rw [show zn (gZ .u64 0)=[gZ .u64 0] from rfl,xO];generalize hh:upd h (3*n+2) _=G;have g:∃e,G (3*n+2)=some (.row (u64s (ns (gP X) 0++ns (gP Y) 0)) e):=⟨_,by rw [←hh,zg,Em]⟩;obtain ⟨e,g⟩:=g;have p:Ext n h G:=by rw [←hh];exact Ext.upd zo
 clear hh;refine Zo ?_;refine ye (α:=Nat×List Nat) (fun z=>[(0,gS a (gP X) c),(6,gS (some ⟨3*n+2,0,none⟩) (gP X+gP Y) (gP X+gP Y)),(53,gS a' (gP Y) c'),(54,gZ .i64 (gP Y:Int)),(55,gZ .i64 (z.1:Int))])
  (fun z s u w=>u=n+1∧w=[]∧Ext n h s∧s (3*n+2)=some (.row (u64s (z.2++ns (gP Y-z.1) 0)) e)∧gP z.2=gP X+z.1∧WdD z.2∧z.1≤gP Y∧wv z.2=wv X*wv (Y.take z.1)) (fun z=>gP Y-z.1)
  (0,ns (gP X) 0) ⟨rfl,rfl,rfl,rfl,rfl,eT⟩ ⟨rfl,rfl,p,g,gN,WdD.zeros _,gH,by simp [wv,dv,pc]⟩ (by show gP Y-0<LL;unfold LL;omega) ?_
 clear g p;rintro ⟨i,D⟩ t G _ _ ⟨rfl,rfl,p,g,N,B,hi,J⟩;simp only at g N B hi J;refine zN ?_;by_cases hiY:i=gP Y
 ·subst hiY;rw [AO,CJ,Am] at g;rw [xd] at J;refine Zg ?_;refine Zj ?_;have aa:=xi (k+1) (h:=G) (n:=n+1) (a:=some ⟨3*n+2,0,none⟩) (len:=gP X+gP Y) (cap:=gP X+gP Y) (l:=D) zo (fun _ e=>by injection e with e;rw [←e]) (xr zo g N);refine zF _ R5 aa ?_;rintro _ _ _ _ ⟨rfl,rfl,rfl,rfl,hs⟩;refine Zb ?_;obtain ⟨t1,t2⟩:=xD B;exact retH _ ⟨rfl,(zi rfl),rfl⟩ ⟨_,⟨rfl,Al n,p,hs,t1⟩,by rw [t2,J],.inl (by show 3*n≤3*n+2;omega)⟩
 obtain ⟨w,hw⟩:∃x,Y[i]?=some x:=⟨Y[i]'zo,kF zo⟩;have ac:=nY.1.get hw;obtain ⟨P,Z,a5,hP,T⟩:∃P Z,D=P++Z∧gP P=i∧gP Z=gP X:=⟨D.take i,D.drop i,(Bm i D).symm,by rw [sn];omega,by rw [sa];omega⟩;subst a5 hP;rw [Ak] at g;have a6:=K.ext p (Al n);refine Zr ?_;refine yE (f:=fun d:Nat=>gZ .u64 (d:Int)) (j:=gP P) R7 (M.ext p (Al n)) R2 hw (fun _=>rfl) R4 fun _=>?_;refine Zm ?_;refine rt (gP P) (gP P+gP X) R9 rfl rfl zo ?_;rw [show 0+gP P*1=gP P from zo,show (gP P)+gP X-gP P=gP Z from zo];repeat refine zR ?_
 refine zF _ R5 (li k (n:=n+1) (b:=3*n+2) zo g zo (fun d W=>B d (by simp [W])) a6 nX.1 (K.below.off zo) T zo ac) ?_;rintro _ h2 _ w2 ⟨L,cc,rfl,a9,⟨ab,rfl,ad,R⟩,a3,F,a4⟩;try simp only [tH]
 rw [zV (w:=[]) fun y hy=>by rw [ab y hy];show 3*n≤3*n+2;omega];obtain ⟨m,hm⟩:∃m,gP Y-gP P=m+1:=⟨gP Y-gP P-1,zo⟩;rw [hm,←Ak] at R;have O:gP (P++L)=gP P+gP X:=by rw [k0,F,T]
 refine uH (j:=gP P+gP X) (v:=gZ .u64 (cc:Int)) R8 rfl ⟨zo,by rw [zL,k0,O,ru];omega⟩ R (by show 3*n≤3*n+2;omega) (fun _=>rfl) R3 (fun _=>rfl) rfl fun _=>?_;rw [yk,←O,cI];refine Zo ?_;refine goOn (gP P+1,P++(L++[cc])) (by show gP Y-(gP P+1)<gP Y-gP P;omega) ⟨rfl,rfl,rfl,rfl,rfl,eT⟩ ⟨rfl,rfl,fun b hb=>(zm zo).trans ((ad b zo zo).trans (p b hb)),?_,?_,?_,by show gP P+1≤_;omega,?_⟩
 ·refine (zg _ _ _).trans ?_;simp only;rw [show gP Y-(gP P+1)=m from zo,Ak P L]
 ·simp only;rw [k0,k0,F,T,nP];omega
 ·exact WdD.append (fun d W=>B d (by simp [W])) (WdD.snoc a3 a9)
 simp only;rw [za8 F a4,J,zQ hw,Ap]
theorem zee {P V U W z v w c s c':Nat}(a:V+W*w=U+c*P)(b:s+v*w+c=z+18446744073709551616*c'):V+P*s+(W+P*v)*w=U+P*z+c'*(P*18446744073709551616):=by
 have:P*(s+v*w+c)=P*(z+18446744073709551616*c'):=by rw [b]
 rw [Ap,Ap,Ap,←Ah P 18446744073709551616] at this;rw [pe c' (P*18446744073709551616),An,Ah P v w];rw [pe c P] at a;omega
theorem zan (k:Nat){h:HF}{n b cZ cX l:Nat}{F:Option Addr}{P Z S X:List Nat}{e:TypeId}{w:Nat}(hb:b<3*n)(V:h b=some (.row (u64s (P++(Z++S))) e))(ad:gP Z≤cZ)(hZ:WdD Z)(N:Sl h n 1 (gS F l cX) (u64s X))(hX:WdD X)(ho:Off b (gS F l cX))(hl:gP Z=gP X)(aa:gP X<1000000000)(o:w<18446744073709551616):
  CF (cal (k+2)) 221 [gS (some ⟨b,gP P,none⟩) (gP Z) cZ,gS F l cX,gZ .u64 (w:Int)] h n fun v q n' W=>∃(L:List Nat) (c:Nat),v=gZ .u64 (c:Int)∧c<18446744073709551616∧RowW n h b e q n' W (P++(L++S))∧WdD L∧gP L=gP Z∧wv L+wv X*w=wv Z+c*18446744073709551616^gP Z:=by
 refine rT (fn:=Tryz.f221) R4 ?_;have a3:=N.lenW;subst a3;refine Zd ?_;refine Zo ?_;refine ye (α:=List Nat×Nat) (fun z=>[(0,gS (some ⟨b,gP P,none⟩) (gP Z) cZ),(2,gZ .u64 (w:Int)),(7,gZ .u64 (z.2:Int)),(14,gS F (gP X) cX),(15,gZ .i64 (gP X:Int)),(16,gZ .i64 (gP z.1:Int))])
  (fun z q n' W=>n=n'∧(∀x∈W,x=b)∧ExtT n b h q∧(W=[]→q=h)∧q b=some (.row (u64s (P++((z.1++Z.drop (gP z.1))++S))) e)∧gP z.1≤gP X∧WdD z.1∧z.2<18446744073709551616∧wv z.1+wv (X.take (gP z.1))*w=wv (Z.take (gP z.1))+z.2*18446744073709551616^gP z.1) (fun z=>gP X-gP z.1)
  ([],0) ⟨rfl,rfl,rfl,rfl,rfl,rfl,eT⟩ ⟨rfl,fun x A=>eN A og,ExtT.refl _ _ _,fun _=>rfl,V,gH,WdD.nil,by show (0:Nat)<_;decide,by simp [wv,dv]⟩ (by show gP X-0<LL;unfold LL;omega) ?_
 rintro ⟨D,c⟩ t h1 _ W ⟨rfl,hW,B,a8,g,hD,s,hc,I⟩;simp only at g hD s hc I;refine zN ?_;by_cases hDX:gP D=gP X
 ·refine Zp ?_;have a0:Z.drop (gP D)=[]:=by rw [hDX,←hl,BE]
  rw [a0,Am] at g;rw [hDX,xd,←hl,xd] at I;have U:∃(L:List Nat) (c':Nat),gZ .u64 (c:Int)=gZ .u64 (c':Int)∧c'<18446744073709551616∧RowW n h b e h1 n W (P++(L++S))∧WdD L∧gP L=gP Z∧wv L+wv X*w=wv Z+c'*18446744073709551616^gP Z:=⟨D,c,rfl,hc,⟨hW,rfl,B,g⟩,s,zo,I⟩;refine ⟨rfl,[gZ .u64 (c:Int)],rfl,U,fun o=>?_⟩;have o:W=[]:=o;subst o;rw [a8 rfl] at U;exact U
 obtain ⟨v,hv⟩:∃x,X[gP D]?=some x:=⟨X[gP D]'zo,kF zo⟩;obtain ⟨z,K⟩:∃x,Z[gP D]?=some x:=⟨Z[gP D]'zo,kF zo⟩;have R:=hX.get hv;have a9:=hZ.get K;have u:(D++Z.drop (gP D)).length=gP Z:=by rw [k0,sa];omega
 have O:=dP (cap:=cZ) hb g zo;rw [u] at O;have a7:=qW R o;refine Zr ?_;refine yE (f:=fun d:Nat=>gZ .u64 (d:Int)) (j:=gP D) R7 (N.extW B ho) R2 hv (fun _=>rfl) R4 fun _=>?_;refine Zm ?_;refine yi _ R5 (pC k h1 n R o) ?_;rintro _ rfl;obtain ⟨p,hp⟩:∃p,p=v*w:=⟨_,rfl⟩;rw [←hp] at a7 ⊢;obtain ⟨J,a2⟩:∃x,x=p/18446744073709551616:=⟨_,rfl⟩;obtain ⟨lo,a4⟩:∃x,x=p%18446744073709551616:=⟨_,rfl⟩;rw [←a2,←a4];refine Zm ?_;refine vt (x:=lo) (y:=c) (c:=0) R5 zd ?_;obtain ⟨M,a5⟩:∃x,x=(lo+c+0)%18446744073709551616:=⟨_,rfl⟩;obtain ⟨G,a1⟩:∃x,x=(lo+c+0)/18446744073709551616:=⟨_,rfl⟩;rw [←a5,←a1];refine Zu ?_;refine yT (a:=J) (b:=G) R6 zo ?_;refine Zm ?_;refine yE (f:=fun d:Nat=>gZ .u64 (d:Int)) (j:=gP D) R7 O R2 (uy K) (fun _=>rfl) R4 fun _=>?_;repeat refine zR ?_
 refine rn (x:=z) (y:=M) (c:=0) R5 zd ?_;obtain ⟨C,m⟩:∃x,x=(z+18446744073709551616-M-0)%18446744073709551616:=⟨_,rfl⟩;obtain ⟨H,i⟩:∃x,x=(if M+0≤z then 0 else 1):=⟨_,rfl⟩;rw [←m,←i];have Y:M<18446744073709551616:=zo;have a6:=vL (c:=0) a9 Y zd;rw [←m,←i] at a6;have ab:H≤1:=by rw [i];split<;>decide
 have ac:C<18446744073709551616:=by rw [m];exact Az _ zd
 clear m i;repeat refine zR ?_
 refine yG (j:=gP D) (off:=gP P) (v:=gZ .u64 (C:Int)) R8 rfl ⟨zo,by rw [zL,k0,k0,u];omega⟩ g hb (fun _=>rfl) R3 (fun _=>rfl) rfl fun _=>?_;rw [yk,kg _ K];refine Zu ?_;refine yT (a:=J+G) (b:=H) R6 zo ?_;refine Zo ?_;refine goOn (D++[C],J+G+H) (by show gP X-gP (D++[C])<gP X-gP D;rw [k0,nP];omega) ⟨rfl,rfl,rfl,rfl,rfl,by show gZ .i64 _=gZ .i64 _;rw [k0];rfl,eT⟩ ⟨rfl,fun x A=>by
  rcases Ad.1 A with rfl|A
  ·rfl
  ·exact hW x A,fun y hy T=>(zm T).trans (B y hy T),fun h=>(by cases h),zg _ _ _,by show gP (D++[C])≤_;rw [k0,nP];omega,WdD.snoc s zo,by show J+G+H<_;omega,?_⟩
 simp only;rw [k0,nP,yO,zQ hv,zQ K,Ac];exact zee I (by rw [←hp];omega)
theorem znb {B v1 v2 vr a w2 wr P:Nat}(y:2≤B)(j:B≤2*v1)(b:v2<B)(l:vr<P)(m:w2<B):B-1≤(((v1*B+a)*B+w2)*P+wr)/((v1*B+v2)*P+vr)+1:=by
 have g:0<P:=zo;have i:0<(v1*B+v2)*P+vr:=by
  have:1*1≤v1*B:=Ar zo zo;have:1*1≤(v1*B+v2)*P:=Ar zo g;omega
 obtain ⟨D,rfl⟩:∃D,B=D+2:=⟨B-2,zo⟩;have o:D≤(((v1*(D+2)+a)*(D+2)+w2)*P+wr)/((v1*(D+2)+v2)*P+vr):=by
  rw [Nat.le_div_iff_mul_le i];have e:(v1*(D+2)+v2)*P+vr≤(v1*(D+2)+v2+1)*P:=by rw [An _ 1];omega
  refine Aa (s9 D e) ?_;rw [←Ah];have f:D*(v1*(D+2)+v2+1)≤v1*(D+2)*(D+2):=by
   have c:D*(v1*(D+2)+v2+1)=D*(v1*(D+2))+D*(v2+1):=by rw [EB,Ap]
   have d:v1*(D+2)*(D+2)=v1*(D+2)*D+v1*(D+2)*2:=Ap _ _ _;have p:D*(v2+1)≤D*(D+2):=s9 _ b;have q:(D+2)*(D+2)≤2*v1*(D+2):=o0 _ j;have s:D*(D+2)≤(D+2)*(D+2):=o0 _ zo;have u:2*v1*(D+2)=v1*(D+2)*2:=by rw [Ah,pe 2]
   rw [c,d,pe D (v1*(D+2))];omega
  have v:=o0 P f;have w:v1*(D+2)*(D+2)*P≤((v1*(D+2)+a)*(D+2)+w2)*P:=o0 P (by rw [An];omega);omega
 omega
structure WinD (W V:List Nat)(m:Nat):Prop where
 wl:gP W=m+3
 vl:gP V=m+2
 wd:WdD W
 vd:WdD V
 top:∀x,V[m+1]?=some x→9223372036854775808≤x
 lt:wv W<18446744073709551616*wv V
theorem eO (k:Nat){h:HF}{n:Nat}{a1 a2:Option Addr}{l1 U l2 c2 m:Nat}{W V:List Nat}(Z:Sl h n 1 (gS a1 l1 U) (u64s W))(Y:Sl h n 1 (gS a2 l2 c2) (u64s V))(hD:WinD W V m)(hb:m<1000000000):
  VF (cal (k+4)) 220 [gS a1 l1 U,gS a2 l2 c2] h n fun v=>∃q:Nat,v=gZ .u64 (q:Int)∧q<18446744073709551616∧wv W/wv V≤q∧q≤wv W/wv V+1:=by
 refine zO (fn:=Tryz.f220) R4 ?_;have e1:=Z.lenW;have e2:=Y.lenW;subst e1 e2;obtain ⟨wl,vl,wd,vd,a8,C⟩:=hD;rw [wl] at Z ⊢;rw [vl] at Y ⊢;obtain ⟨c,F⟩:∃x,V[m+1]?=some x:=⟨V[m+1]'zo,kF zo⟩;obtain ⟨g,R⟩:∃x,V[m]?=some x:=⟨V[m]'zo,kF zo⟩;obtain ⟨A,H⟩:∃x,W[m+2]?=some x:=⟨W[m+2]'zo,kF zo⟩;obtain ⟨w1,S⟩:∃x,W[m+1]?=some x:=⟨W[m+1]'zo,kF zo⟩;obtain ⟨i,I⟩:∃x,W[m]?=some x:=⟨W[m]'zo,kF zo⟩;have hn:=a8 c F;have a7:=vd.get F;have u:=vd.get R;have ao:=wd.get H;have ai:=wd.get S;have T:=wd.get I;have eW:wv W=((A*18446744073709551616+w1)*18446744073709551616+i)*18446744073709551616^m+wv (W.take m):=zit wl H S I;have eV:wv V=(c*18446744073709551616+g)*18446744073709551616^m+wv (V.take m):=zky vl F R;have a6:wv (W.take m)<18446744073709551616^m:=by
  have:=wW (wd.take m);rw [sn,AN zo] at this;exact this
 have G:wv (V.take m)<18446744073709551616^m:=by
  have:=wW (vd.take m);rw [sn,AN zo] at this;exact this
 rw [eW,eV] at C ⊢;generalize 18446744073709551616^m=P at*
 generalize wv (W.take m)=wr at*
 generalize wv (V.take m)=vr at*
 clear eW eV;have ah:=zp7 G u C;obtain ⟨e,ht⟩:∃t,t=A*18446744073709551616+w1:=⟨_,rfl⟩;rw [←ht] at C ah ⊢;have al:((e*18446744073709551616+i)*P+wr)/((c*18446744073709551616+g)*P+vr)<18446744073709551616:=by
  rw [Bk zo];exact C
 refine Zw ?_;rw [wb rfl];repeat refine zR ?_
 refine yE (f:=fun d:Nat=>gZ .u64 (d:Int)) (j:=m+1) R7 Y ⟨rfl,zo⟩ F (fun _=>rfl) R4 fun _=>?_;repeat refine zR ?_
 refine yE (f:=fun d:Nat=>gZ .u64 (d:Int)) (j:=m) R7 Y ⟨rfl,zo⟩ R (fun _=>rfl) R4 fun _=>?_;refine Zm ?_;refine yE (f:=fun d:Nat=>gZ .u64 (d:Int)) (j:=m+2) R7 Z ⟨rfl,zo⟩ H (fun _=>rfl) R4 fun _=>?_;by_cases hfull:c≤A
 ·refine Zq ?_;have h0:A=c:=zo;subst h0;refine retF _ rfl (zi rfl) R2 ⟨18446744073709551615,rfl,by decide,zo,?_⟩;rw [ht];exact znb (B:=18446744073709551616) zd zo u G T
 refine Zl ?_;refine zl [0,0,3,7,0,0,32,112,240,0,1023,2047,4095,4095,8191,32767] rfl ?_;obtain ⟨b1,o1,x1,a9,rfl,am,J,o,aj,ak,L⟩:=Z.inv zo;have l:∀{j x:Nat},W[j]?=some x→a9[o1+j]?=some (gZ .u64 (x:Int)):=fun hj=>qG L (by rw [u64s,As,hj];rfl);repeat refine zE ?_
 refine bO R8 zo ?_;refine yd R6 (zX rfl J (v:=gZ .u64 (A:Int)) ⟨o,(by rw [←l H];congr 1;omega)⟩) R2 ?_;repeat refine zE ?_
 refine bO R8 zo ?_;refine yd R6 (zX rfl J (v:=gZ .u64 (w1:Int)) ⟨o,(by rw [←l S];congr 1;omega)⟩) R2 ?_;repeat refine zE ?_
 refine ziw _ R7 (pH k h n (show A<c by omega) ai a7) ?_;rintro _ rfl;rw [←ht];repeat refine zE ?_
 refine zN ?_;have O:=kB (B:=18446744073709551616) (v1:=c) (v2:=g) (vr:=vr) (top:=e) (w2:=i) (wr:=wr) (P:=P) zo T a6;have ab:e/c*c+e%c=e:=by rw [pe];exact AE _ _
 have aa:e/c<18446744073709551616:=by
  rw [Bk zo,ht];have:(A+1)*18446744073709551616≤c*18446744073709551616:=o0 _ zo;rw [pe 18446744073709551616];omega
 refine ye (α:=Nat×Nat) (fun z=>[(0,gS (some ⟨b1,o1,none⟩) (m+3) U),(5,gZ .i64 ((m+2:Nat):Int)),(6,gZ .u64 (c:Int)),(7,gZ .u64 (g:Int)),(8,gZ .u64 (z.1:Int)),(9,gZ .u64 (z.2:Int))])
  (fun z K n' w=>h=K∧n=n'∧w=[]∧z.1<18446744073709551616∧z.2<18446744073709551616∧z.1*c+z.2=e∧((e*18446744073709551616+i)*P+wr)/((c*18446744073709551616+g)*P+vr)≤z.1) (fun z=>2-z.2/9223372036854775808)
  (e/c,e%c) ⟨rfl,rfl,rfl,rfl,rfl,rfl,eT⟩ ⟨rfl,rfl,rfl,aa,EZ (Az _ zo) a7,ab,O⟩ (by show 2-e%c/9223372036854775808<LL;unfold LL;omega) ?_
 rintro ⟨q,r⟩ t _ _ _ ⟨rfl,rfl,rfl,M,hr,D,a5⟩;simp only at M hr D a5;refine Zn ?_;refine yi _ R5 (pC (k+2) h n M u) ?_;rintro _ rfl;obtain ⟨p,hp⟩:∃p,p=q*g:=⟨_,rfl⟩;have ag:=qW M u;rw [←hp] at ag ⊢;have a3:∀t':TF,t' 4=gZ .u64 (q:Int)→p≤r*18446744073709551616+i→∃y:Nat,gZ .u64 (q:Int)=gZ .u64 (y:Int)∧y<18446744073709551616∧((e*18446744073709551616+i)*P+wr)/((c*18446744073709551616+g)*P+vr)≤y∧y≤((e*18446744073709551616+i)*P+wr)/((c*18446744073709551616+g)*P+vr)+1:=fun _ _ hc=>
  ⟨q,rfl,M,a5,zkq zo zd G D (by rw [←hp];exact hc) M⟩
 obtain ⟨s,ad⟩:∃x,x=p/18446744073709551616:=⟨_,rfl⟩;obtain ⟨lo,ae⟩:∃x,x=p%18446744073709551616:=⟨_,rfl⟩;rw [←ad,←ae];have af:p=s*18446744073709551616+lo:=zo;repeat refine zR ?_
 simp only [yu,xg,zK,yY];by_cases L:s<r
 ·refine Zd ?_;rw [ze rfl];refine Zd ?_;exact retF _ rfl (zi rfl) R2 (a3 (fun _=>gZ .u64 (q:Int)) rfl (by
   have:(s+1)*18446744073709551616≤r*18446744073709551616:=o0 _ L;omega))
 by_cases a4:s=r∧lo≤i
 ·obtain ⟨rfl,a4⟩:=a4;refine Zj ?_;refine oe R8 zo ?_;refine zT R6 J (v:=gZ .u64 (i:Int)) ⟨o,(by rw [←l I];congr 1;omega)⟩ ?_;refine Zq ?_;exact retF _ rfl (zi rfl) R2 (a3 (fun _=>gZ .u64 (q:Int)) rfl zo)
 have ac:r*18446744073709551616+i<q*g:=by
  rw [←hp,af];rcases Bi r s with K|K
  ·have:(r+1)*18446744073709551616≤s*18446744073709551616:=o0 _ K;omega
  have:s=r:=zo;subst this;omega
 have a0:=ek (vr:=vr) T a6 D ac;have an:1≤q:=Aj gH a0;refine yj (α:=Unit) (fun _=>[(0,gS (some ⟨b1,o1,none⟩) (m+3) U),(5,gZ .i64 ((m+2:Nat):Int)),(6,gZ .u64 (c:Int)),(7,gZ .u64 (g:Int)),(8,gZ .u64 (q:Int)),(9,gZ .u64 (r:Int)),(66,jx false)]) (fun _ K n' w=>h=K∧n=n'∧w=[]) ?_ ?_
 ·by_cases hc3:s=r
  ·subst hc3;refine Zj ?_;refine oe R8 zo ?_;refine zT R6 J (v:=gZ .u64 (i:Int)) ⟨o,(by rw [←l I];congr 1;omega)⟩ ?_;refine Zb ?_;exact zA () ⟨rfl,rfl,rfl,rfl,rfl,rfl,rfl,eT⟩ ⟨rfl,rfl,rfl⟩
  refine Zd ?_;exact zA () ⟨rfl,rfl,rfl,rfl,rfl,rfl,rfl,eT⟩ ⟨rfl,rfl,rfl⟩
 rintro _ t _ _ _ ⟨rfl,rfl,rfl⟩;rw [za rfl];refine Ze ?_;refine ym (a:=q) (b:=1) R6 zo ?_;refine Zu ?_;refine uo (a:=r) (b:=c) R6 ?_;refine Zb ?_;have N:(q-1)*c+(r+c)=e:=by
  obtain ⟨y,rfl⟩:∃y,q=y+1:=⟨q-1,zo⟩;rw [An] at D;rw [BM];omega
 by_cases hov:r+c<18446744073709551616
 ·rw [Ab hov];refine Zl ?_;exact goOn (q-1,r+c) (by show 2-(r+c)/9223372036854775808<2-r/9223372036854775808;omega) ⟨rfl,rfl,rfl,rfl,rfl,rfl,eT⟩ ⟨rfl,rfl,rfl,by show q-1<_;omega,hov,N,by show _≤q-1;omega⟩
 rw [show (r+c)%18446744073709551616=r+c-18446744073709551616 from zo];refine Zq ?_;refine retF _ rfl (zi rfl) R2 ⟨q-1,rfl,zo,zo,zkq zo zd G N ?_ zo⟩;have h1:=qW (v:=q-1) (w:=g) zo u;have h2:18446744073709551616*18446744073709551616≤(r+c)*18446744073709551616:=o0 _ zo;omega
theorem fa {s:Nat}(a:s≤64):(18446744073709551616:Nat)=2^(64-s)*2^s:=by rw [←Bf,show 64-s+s=64 from zo]
theorem fE {w s:Nat}(a:s≤64):w*2^s%18446744073709551616=w%2^(64-s)*2^s:=by
 rw [fa a,Nat.mul_mod_mul_right]
theorem zmc {w s c:Nat}(b:s≤64)(a:c<2^s):c|||w*2^s%18446744073709551616=c+w*2^s%18446744073709551616:=by
 rw [fE b,Nat.or_comm,jZ a,Bj]
theorem zdi {w s c:Nat}(a:s≤64)(e:c<2^s):c+w*2^s%18446744073709551616<18446744073709551616:=by
 have b:w%2^(64-s)+1≤2^(64-s):=Az _ (AW zd);have d:=o0 (2^s) b;rw [An,BR,←fa a] at d;rw [fE a];omega
theorem zj6 {w s:Nat}(a:s≤64)(b:w<18446744073709551616):w/2^(64-s)<2^s:=by
 rw [Bk (AW zd),pe,←fa a];exact b
theorem jV (n:Nat):2^n=18446744073709551616^(n/64)*2^(n%64):=by
 rw [show (18446744073709551616:Nat)=2^64 from rfl,←Hi,←Bf,AE]
theorem zhn {w c s S:Nat}(a:V+c*P=U*S)(d:w*S=c'*18446744073709551616+lo)(b:s=c+lo):V+P*s+c'*(P*18446744073709551616)=(U+P*w)*S:=by
 subst b;rw [An U,←a,Ah P w S,d,Ap,Ap,pe c P,Be c' P];omega
theorem dO (m:Nat):wv (ns m 0)=0:=pc _ _
theorem tL (k:Nat){a:Option Addr}{c:Nat}(I:Sl h n 1 (gS a l c) (u64s X))(Y:NW X)(hb:gP X<100000000∧m<6400000000):
  CF (cal (k+2)) 213 [gS a l c,gZ .u64 (m:Int)] h n fun v G W w=>∃L,ResW n h v G W w L∧wv L=wv X*2^m∧(xC n v∨v=gS a l c):=by
 refine zw (fn:=Tryz.f213) R4 ?_;have e1:=I.lenW;subst e1;refine Zd ?_;by_cases hX0:gP X=0
 ·have S:=vT.1 hX0;refine Zq ?_;exact retH _ ⟨rfl,(zi rfl),rfl⟩ ⟨X,⟨rfl,eU,Ext.refl _ _,I,Y⟩,by rw [S,show wv []=0 from rfl,Bg],.inr rfl⟩
 by_cases hm0:m=0
 ·refine Zq ?_;exact retH _ ⟨rfl,(zi rfl),rfl⟩ ⟨X,⟨rfl,eU,Ext.refl _ _,I,Y⟩,by rw [hm0,BL,AH],.inr rfl⟩
 refine Zl ?_;rw [jV m];obtain ⟨g,O⟩:∃x,x=m/64:=⟨_,rfl⟩;obtain ⟨s,hs⟩:∃x,x=m%64:=⟨_,rfl⟩;rw [←O,←hs];have o:s≤64:=zo;refine zM ?_;refine xN (a:=m) (b:=64) R6 zo ?_;rw [←O];refine wm (ik:=.i64) (a:=(g:Int)) R6 (by show some (gZ .i64 (Ai .i64 _))=_;rw [xj zo]) ?_;refine zM ?_;refine vO (a:=m) (b:=64) R6 zo ?_;rw [←hs];refine Zm ?_;refine vB (len:=gP X+g+1) (cap:=gP X+g+1) R9 zo ?_;rw [show zn (gZ .u64 0)=[gZ .u64 0] from rfl,xO];generalize hh:upd h (3*n+2) _=A;have i:∃e,A (3*n+2)=some (.row (u64s (ns g 0++([]++0::ns (gP X) 0))) e):=⟨_,by rw [←hh,zg,Au,←Dd,Em,show g+(gP X+1)=gP X+g+1 from zo]⟩;obtain ⟨e,i⟩:=i;have q:Ext n h A:=by rw [←hh];exact Ext.upd zo
 clear hh;refine Zo ?_;refine ye (α:=List Nat×Nat) (fun z=>[(5,gZ .i64 (g:Int)),(6,gZ .u64 (s:Int)),(7,gS (some ⟨3*n+2,0,none⟩) (gP X+g+1) (gP X+g+1)),(29,gS a (gP X) c),(30,gZ .i64 (gP X:Int)),(31,gZ .i64 (gP z.1:Int))])
  (fun z G W w=>W=n+1∧w=[]∧Ext n h G∧G (3*n+2)=some (.row (u64s (ns g 0++(z.1++z.2::ns (gP X-gP z.1) 0))) e)∧gP z.1≤gP X∧WdD z.1∧z.2<2^s∧wv z.1+z.2*18446744073709551616^gP z.1=wv (X.take (gP z.1))*2^s) (fun z=>gP X-gP z.1)
  ([],0) ⟨rfl,rfl,rfl,rfl,rfl,rfl,eT⟩ ⟨rfl,rfl,q,i,gH,WdD.nil,AW zd,by simp [wv,dv]⟩ (by show gP X-0<LL;unfold LL;omega) ?_
 clear i q;rintro ⟨D,p⟩ t A _ _ ⟨rfl,rfl,q,i,hD,B,y,H⟩;simp only at i hD B y H;have C:p<18446744073709551616:=Af y (Aa (sN zd o) zd);refine zN ?_;by_cases hDX:gP D=gP X
 ·rw [hDX,AO,CJ] at i;rw [hDX,xd] at H;refine Zg ?_;refine Zj ?_;have a3:=xi k (h:=A) (n:=n+1) (a:=some ⟨3*n+2,0,none⟩) (len:=gP X+g+1) (cap:=gP X+g+1) (l:=ns g 0++(D++[p])) (by simp;omega) (fun _ e=>by injection e with e;rw [←e]) (xr zo i (by simp;omega));refine zF _ R5 a3 ?_;rintro _ _ _ _ ⟨rfl,rfl,rfl,rfl,a2⟩;refine Zb ?_;obtain ⟨t1,t2⟩:=xD (L:=ns g 0++(D++[p])) ((WdD.zeros g).append (WdD.snoc B C));refine retH _ ⟨rfl,(zi rfl),rfl⟩ ⟨_,⟨rfl,Al n,q,a2,t1⟩,?_,.inl (by show 3*n≤3*n+2;omega)⟩;rw [t2,wZ,dO,ru,sb,yO,hDX,pe (18446744073709551616^gP X) p,H,Be]
 obtain ⟨w,T⟩:∃x,X[gP D]?=some x:=⟨X[gP D]'zo,kF zo⟩;have a4:=Y.1.get T;obtain ⟨u,a0⟩:∃m,gP X-gP D=m+1:=⟨gP X-gP D-1,zo⟩;rw [a0] at i;have F:gP (ns g 0++(D++p::ns (u+1) 0))=gP X+g+1:=by simp;omega
 have hZ:=xr (n:=n+1) zo i F;have J:(ns g 0++(D++p::ns (u+1) 0))[gP D+g]?=some p:=by
  rw [ux gN,ru,BM,ux eU,AO];rfl
 have K:∀d,(ns g 0++(D++p::ns (u+1) 0)).set (gP D+g) d=ns g 0++(D++d::ns (u+1) 0):=fun d=>by
  rw [A4 _ _ gN,ru,BM,A4 _ _ eU,AO];rfl
 have M:∀d R,(ns g 0++(D++d::ns (u+1) 0)).set (gP D+g+1) R=ns g 0++((D++[d])++R::ns u 0):=fun d R=>by
  rw [A4 _ _ (by simp;omega),ru,show (gP D)+g+1-g=gP D+1 from zo,A4 _ _ zo,show (gP D)+1-gP D=1 from zo,Dd];simp
 refine Zr ?_;refine yE (f:=fun d:Nat=>gZ .u64 (d:Int)) (j:=gP D) R7 (I.ext q (Al n)) R2 T (fun _=>rfl) R4 fun _=>?_;refine Zm ?_;refine yE (f:=fun d:Nat=>gZ .u64 (d:Int)) (j:=gP D+g) R7 hZ ⟨rfl,zo⟩ J (fun _=>rfl) R4 fun _=>?_;refine Zc ?_;refine xK (a:=w) (s:=s) R6 o ?_;refine wG (a:=p) (b:=w*2^s%18446744073709551616) R6 ⟨C,Az _ zd⟩ ?_;rw [zmc o y];have N:=zdi (w:=w) o y;obtain ⟨d,Z⟩:∃d,d=p+w*2^s%18446744073709551616:=⟨_,rfl⟩;rw [←Z] at N ⊢;refine uH (j:=gP D+g) (v:=gZ .u64 (d:Int)) R8 zo ⟨zo,by rw [zL,F];omega⟩ i (by show 3*n≤3*n+2;omega) (fun _=>rfl) R3 (fun _=>rfl) rfl fun _=>?_;rw [yk,K];generalize hh:upd A (3*n+2) _=h2;have a1:h2 (3*n+2)=some (.row (u64s (ns g 0++(D++d::ns (u+1) 0))) e):=by rw [←hh,zg]
 have a5:Ext n h h2:=fun b hb=>by rw [←hh,zm zo,q b hb]
 clear hh;refine Zn ?_;refine zM ?_;refine zR ?_;refine zR ?_;refine Zc ?_;refine ym (a:=64) (b:=s) R6 zo ?_;refine yn (a:=w) (s:=64-s) R6 zo ?_;refine uH (j:=gP D+g+1) (v:=gZ .u64 ((w/2^(64-s):Nat):Int)) R8 zo ⟨zo,by rw [zL];simp;omega⟩ a1 (by show 3*n≤3*n+2;omega) (fun _=>rfl) R3 (fun _=>rfl) rfl fun _=>?_;rw [yk,M];refine Zo ?_;refine goOn (D++[d],w/2^(64-s)) (by show gP X-gP (D++[d])<gP X-gP D;rw [k0,nP];omega) ⟨rfl,rfl,rfl,rfl,rfl,by show gZ .i64 _=gZ .i64 _;rw [k0];rfl,eT⟩ ⟨rfl,rfl,fun b hb=>(zm zo).trans (a5 b hb),?_,by show gP (D++[d])≤_;rw [k0,nP];omega,WdD.snoc B N,zj6 o a4,?_⟩
 ·refine (zg _ _ _).trans ?_;simp only;rw [show gP X-gP (D++[d])=u from by rw [k0,nP];omega]
 simp only;rw [k0,nP,yO,zQ T,Ac];exact zhn H (jG o) Z
def nxt (X:List Nat)(j s:Nat):Nat:=((X[j]?).getD 0)%2^s
theorem zhl {x S z a:Nat}(g:V*S+r=U+x%S*P)(f:z*S=x-x%S+a*18446744073709551616)(hx:x%S≤x):(V+P*z)*S+r=U+P*x+a*(P*18446744073709551616):=by
 have e:(V+P*z)*S=V*S+P*(z*S):=by rw [An,Ah]
 obtain ⟨y,d⟩:∃y,x=y+x%S:=⟨x-x%S,zo⟩;have b:x-x%S=y:=zo;rw [e,f,b,Ap];have c:P*x=P*y+P*(x%S):=by conv=>lhs;rw [d,Ap]
 rw [c,Be a P,pe P (x%S)];omega
theorem zhk {x y s:Nat}(c:s≤64):(x/2^s|||y*2^(64-s)%18446744073709551616)*2^s=x-x%2^s+y%2^s*18446744073709551616∨18446744073709551616≤x:=by
 by_cases hx:x<18446744073709551616
 ·left;have d:x/2^s<2^(64-s):=by
   rw [Bk (AW zd),←fa c];exact hx
  have b:64-(64-s)=s:=zo;have a:=fE (w:=y) (s:=64-s) zo;rw [b] at a;rw [a,Nat.or_comm,jZ d,An,Ah,←fa c,Bj];have:=AE x (2^s);have e:x/2^s*2^s=x-x%2^s:=by rw [pe];omega
  rw [e]
 right;omega
theorem zp1 (X:List Nat)(j s:Nat):nxt X j s<2^s:=Az _ (AW zd)
theorem zke {s x:Nat}(h:X[j]?=some x):nxt X j s=x%2^s:=by unfold nxt;rw [h];rfl
theorem zd8 {s:Nat}(h:gP X≤j):nxt X j s=0:=by unfold nxt;rw [List.getElem?_eq_none h];exact Nat.zero_mod _
theorem zmb (a:WdD X):wv X/2^m=wv (X.drop (m/64))/2^(m%64):=by
 rw [jV m,←Nat.div_div_eq_div_mul];congr 1;rcases Bi (gP X) (m/64) with h|h
 ·rw [B3 zo,show wv []=0 from rfl,Cz];exact Af (wW a) (sN zd zo)
 have b:wv (X.take (m/64))<18446744073709551616^(m/64):=by
  have:=wW (a.take (m/64));rw [sn,AN h] at this;exact this
 rw [pu X (m/64) h,Nat.add_mul_div_left _ _ (AW zd),Cz b,sb]
theorem om (k:Nat){a:Option Addr}{c:Nat}(T:Sl h n 1 (gS a l c) (u64s X))(nX:NW X)(hb:gP X<100000000∧m<18446744073709551616):
  CF (cal (k+2)) 218 [gS a l c,gZ .u64 (m:Int)] h n fun v p I w=>∃L,ResW n h v p I w L∧wv L=wv X/2^m∧xC n v:=by
 refine zw (fn:=Tryz.f218) R4 ?_;have e1:=T.lenW;subst e1;rw [zmb nX.1];obtain ⟨g,C⟩:∃x,x=m/64:=⟨_,rfl⟩;obtain ⟨s,hs⟩:∃x,x=m%64:=⟨_,rfl⟩;have B:s≤64:=zo;rw [←C,←hs];refine Zd ?_;refine zM ?_;refine xN (a:=m) (b:=64) R6 zo ?_;rw [←C];refine zM ?_;refine st_I (ik:=.i64) (a:=(gP X:Int)) R5 ?_;refine se (c:=gP X) R7 zo ?_;by_cases hbig:gP X≤g
 ·refine Zq ?_;exact retH _ ⟨rfl,(zi rfl),rfl⟩ ⟨[],⟨rfl,eU,Ext.refl _ _,.nil (.inl rfl),NW.nil⟩,by rw [B3 hbig,show wv []=0 from rfl,Nat.zero_div],eT⟩
 refine Zz ?_;refine xN (a:=m) (b:=64) R6 zo ?_;rw [←C];refine wm (ik:=.i64) (a:=(g:Int)) R6 (by show some (gZ .i64 (Ai .i64 _))=_;rw [xj zo]) ?_;refine zM ?_;refine vO (a:=m) (b:=64) R6 zo ?_;rw [←hs];refine Zb ?_;obtain ⟨N,hN⟩:∃N,N=gP X-g:=⟨_,rfl⟩;refine zM ?_;refine st_I (ik:=.i64) (a:=(gP X:Int)) R5 ?_;refine zM ?_;refine qO (a:=(gP X:Int)) (b:=(g:Int)) R6 zo ?_;rw [show (gP X:Int)-(g:Int)=(N:Int) from zo];refine vB (len:=N) (cap:=N) R9 zo ?_;rw [show zn (gZ .u64 0)=[gZ .u64 0] from rfl,xO];generalize hh:upd h (3*n+2) _=q;have i:∃e,q (3*n+2)=some (.row (u64s ([]++ns N 0)) e):=⟨_,by rw [←hh,zg];rfl⟩;obtain ⟨e,i⟩:=i;have o:Ext n h q:=by rw [←hh];exact Ext.upd zo
 clear hh;have R:gP (X.drop g)=N:=by rw [sa];omega
 obtain ⟨Y,W⟩:∃Y,Y=X.drop g:=⟨_,rfl⟩;rw [←W] at R ⊢;have O:∀j,Y[j]?=X[j+g]?:=fun j=>by rw [W,List.getElem?_drop,Bj]
 have a9:WdD Y:=by rw [W];exact nX.1.drop g
 refine Zo ?_;refine ye (α:=List Nat) (fun D=>[(0,gS a (gP X) c),(5,gZ .i64 (g:Int)),(6,gZ .u64 (s:Int)),(7,gS (some ⟨3*n+2,0,none⟩) N N),(26,gZ .i64 (N:Int)),(27,gZ .i64 (gP D:Int))])
  (fun D p I w=>I=n+1∧w=[]∧Ext n h p∧p (3*n+2)=some (.row (u64s (D++ns (N-gP D) 0)) e)∧gP D≤N∧WdD D∧wv D*2^s+nxt Y 0 s=wv (Y.take (gP D))+nxt Y (gP D) s*18446744073709551616^gP D) (fun D=>N-gP D)
  [] ⟨rfl,rfl,rfl,rfl,rfl,rfl,eT⟩ ⟨rfl,rfl,o,i,gH,WdD.nil,by simp [wv,dv]⟩ (by show N-0<LL;unfold LL;omega) ?_
 clear i o;rintro D t q _ _ ⟨rfl,rfl,o,i,hD,K,J⟩;refine zN ?_;by_cases hDN:gP D=N
 ·rw [hDN,AO,CJ,Am] at i;rw [hDN,zd8 (X:=Y) (j:=N) zo,Bg,AJ,←R,xd] at J;refine Zg ?_;refine Zj ?_;have a4:=xi k (h:=q) (n:=n+1) (a:=some ⟨3*n+2,0,none⟩) (len:=N) (cap:=N) (l:=D) zo (fun _ e=>by injection e with e;rw [←e]) (xr zo i hDN);refine zF _ R5 a4 ?_;rintro _ _ _ _ ⟨rfl,rfl,rfl,rfl,a3⟩;refine Zb ?_;obtain ⟨t1,t2⟩:=xD K;refine retH _ ⟨rfl,(zi rfl),rfl⟩ ⟨_,⟨rfl,Al n,o,a3,t1⟩,?_,by show 3*n≤3*n+2;omega⟩;rw [t2,←J,Bj,Nat.add_mul_div_right _ _ (AW zd),Cz (zp1 _ _ _),sb]
 obtain ⟨x,hx⟩:∃x,X[gP D+g]?=some x:=⟨X[gP D+g]'zo,kF zo⟩;have a6:=nX.1.get hx;have S:Y[gP D]?=some x:=by rw [O];exact hx
 obtain ⟨H,a1⟩:∃m,N-gP D=m+1:=⟨N-gP D-1,zo⟩;rw [a1] at i;have M:=T.ext o (Al n);have G:x/2^s<18446744073709551616:=Aj (A3 _ _) a6;refine Zq ?_;repeat refine zR ?_
 refine yE (f:=fun d:Nat=>gZ .u64 (d:Int)) (j:=gP D+g) R7 M ⟨rfl,zo⟩ hx (fun _=>rfl) R4 fun _=>?_;refine zM ?_;refine yn (a:=x) (s:=s) R6 B ?_;refine uH (j:=gP D) (v:=gZ .u64 ((x/2^s:Nat):Int)) R8 rfl ⟨zo,by rw [zL];simp⟩ i (by show 3*n≤3*n+2;omega) (fun _=>rfl) R3 (fun _=>rfl) rfl fun _=>?_;rw [yk,cI];generalize hh:upd q (3*n+2) _=h2;have A:h2 (3*n+2)=some (.row (u64s ((D++[x/2^s])++ns H 0)) e):=by rw [←hh,zg]
 have F:Ext n h h2:=fun b hb=>by rw [←hh,zm zo,o b hb]
 clear hh M;have a0:=T.ext F (Al n);have u:gP ((D++[x/2^s])++ns H 0)=N:=by simp;omega
 have Z:((D++[x/2^s])++ns H 0)[gP D]?=some (x/2^s):=by rw [Ak,ux eU,AO];rfl
 refine Zj ?_;simp only [yu,xg,zK,yY];refine zon (α:=Nat) (fun _=>[(0,gS a (gP X) c),(5,gZ .i64 (g:Int)),(6,gZ .u64 (s:Int)),(7,gS (some ⟨3*n+2,0,none⟩) N N),(26,gZ .i64 (N:Int)),(27,gZ .i64 (gP D:Int))])
  (fun z p I w=>I=n+1∧w=[]∧Ext n h p∧p (3*n+2)=some (.row (u64s ((D++[z])++ns H 0)) e)∧z<18446744073709551616∧z*2^s=x-x%2^s+nxt Y (gP D+1) s*18446744073709551616) ?_ ?_
 ·by_cases hlast:gP D+g+1<gP X
  ·obtain ⟨y,hy⟩:∃x,X[gP D+g+1]?=some x:=⟨X[gP D+g+1]'zo,kF zo⟩;have a7:Y[gP D+1]?=some y:=by rw [O,show (gP D)+1+g=gP D+g+1 from zo];exact hy
   rw [ze (by show jx _=_;rw [eH zo])];rw [zjp rfl];repeat refine zR ?_
   refine yE (f:=fun d:Nat=>gZ .u64 (d:Int)) (j:=gP D) R7 (xr (n:=n+1) zo A u) R2 Z (fun _=>rfl) R4 fun _=>?_;repeat refine zR ?_
   refine yE (f:=fun d:Nat=>gZ .u64 (d:Int)) (j:=gP D+g+1) R7 a0 ⟨rfl,zo⟩ hy (fun _=>rfl) R4 fun _=>?_;refine zM ?_;refine ym (a:=64) (b:=s) R6 zo ?_;refine xK (a:=y) (s:=64-s) R6 zo ?_;refine wG (a:=x/2^s) (b:=y*2^(64-s)%18446744073709551616) R6 ⟨G,Az _ zd⟩ ?_;refine uH (j:=gP D) (v:=gZ .u64 ((x/2^s|||y*2^(64-s)%18446744073709551616:Nat):Int)) R8 rfl ⟨zo,by rw [zL,u];omega⟩ A (by show 3*n≤3*n+2;omega) (fun _=>rfl) R3 (fun _=>rfl) rfl fun _=>?_;rw [yk,Ak,A4 _ _ eU,AO];refine zN ?_;refine zA (x/2^s|||y*2^(64-s)%18446744073709551616) ⟨rfl,rfl,rfl,rfl,rfl,rfl,eT⟩ ⟨rfl,rfl,fun b hb=>(zm zo).trans (F b hb),(zg _ _ _).trans (by rw [Ak];rfl),Nat.or_lt_two_pow (n:=64) G (Az _ zd),?_⟩;rw [zke a7];exact (zhk B).resolve_right zo
  rw [za (by show jx _=_;rw [cA zo])];refine zN ?_;refine zA (x/2^s) ⟨rfl,rfl,rfl,rfl,rfl,rfl,eT⟩ ⟨rfl,rfl,F,A,G,?_⟩;rw [zd8 zo,Bg,AJ];have:=AE x (2^s);rw [pe] at this;omega
 rintro z t h3 _ _ ⟨rfl,rfl,a5,a2,a8,hz⟩;refine Zd ?_;refine goOn (D++[z]) (by show N-gP (D++[z])<N-gP D;rw [k0,nP];omega) ⟨rfl,rfl,rfl,rfl,rfl,by show gZ .i64 _=gZ .i64 _;rw [k0];rfl,eT⟩ ⟨rfl,rfl,a5,?_,by rw [k0,nP];omega,WdD.snoc K a8,?_⟩
 ·refine a2.trans ?_;rw [show N-gP (D++[z])=H from by rw [k0,nP];omega]
 rw [k0,nP,yO,zQ S,Ac];rw [zke S] at J;exact zhl J hz (Nat.mod_le _ _)
theorem zh2 {Y V:List Nat}{a s:Nat}(D:gP Y=m+2)(y:NW Y)(w:Y[m+1]?=some a)(p:9223372036854775808≤a*2^s)(g:a*2^s<18446744073709551616)(M:s<64)(c:NW V)(i:wv V=wv Y*2^s):
  (gP V)=m+2∧(∀x,V[m+1]?=some x→9223372036854775808≤x)∧wv V<18446744073709551616^(m+2)∧18446744073709551616^(m+1)*9223372036854775808≤wv V:=by
 have f:wv Y=wv (Y.take (m+1))+18446744073709551616^(m+1)*a:=by
  rw [←zQ w,show m+1+1=gP Y from zo,xd]
 have H:wv (Y.take (m+1))<18446744073709551616^(m+1):=by
  have:=wW (y.1.take (m+1));rw [sn,AN zo] at this;exact this
 have l:(a+1)*2^s≤18446744073709551616:=by
  rw [fa (s:=s) zo] at g ⊢;exact o0 _ (Nat.lt_of_mul_lt_mul_right g)
 rw [Ac _ (m+1)];generalize hP:18446744073709551616^(m+1)=P at*
 have B:0<P:=zo;have e:wv V<P*18446744073709551616:=by
  rw [i,f];have I:(wv (Y.take (m+1))+P*a)*2^s<(P*(a+1))*2^s:=by
   refine Ci ?_ (AW zd);rw [Ap,AH];omega
  have J:P*(a+1)*2^s≤P*18446744073709551616:=by rw [Ah];exact s9 _ l
  omega
 have o:P*9223372036854775808≤wv V:=by
  rw [i,f,An,Ah];have:=s9 P p;omega
 have G:gP V≤m+2:=c.len_le (by rw [Ac _ (m+1),hP];exact e);have F:m+2≤gP V:=by
  rcases Bi (gP V) (m+2) with j|j
  ·have L:=wW c.1;have q:18446744073709551616^gP V≤18446744073709551616^(m+1):=sN zd zo;rw [hP] at q;omega
  exact j
 refine ⟨zo,fun x v=>?_,e,o⟩;have K:wv V=wv (V.take (m+1))+P*x:=by
  rw [←hP,←zQ v,show m+1+1=gP V from zo,xd]
 have u:wv (V.take (m+1))<P:=by
  have:=wW (c.1.take (m+1));rw [sn,AN zo,hP] at this;exact this
 rcases Bi x 9223372036854775808 with b|b
 ·have:=s9 P b;rw [FG] at this;omega
 exact b
theorem zli {P S V:List Nat}(c:gP Z=N)(i:WdD Z)(o:wv V<18446744073709551616^N)(h:wv ((P++(Z++top::S)).drop (gP P+1))<wv V)(l:1≤N):
  wv S=0∧wv (Z++[top])<18446744073709551616*wv V:=by
 have e:(P++(Z++top::S)).drop (gP P+1)=(Z++top::S).drop 1:=by rw [←DM,D7 rfl]
 rw [e] at h;cases Z with
 |nil=>simp at c;omega
 |cons z Z=>
  rw [Es,List.drop_succ_cons,Av] at h;rw [wZ,show wv (top::S)=top+18446744073709551616*wv S from rfl] at h;have f:gP Z+1=N:=by simpa using c
  have b:wv S=0:=by
   rcases BN (wv S) with a|a
   ·exact a
   have g:18446744073709551616^gP Z*(18446744073709551616*1)≤18446744073709551616^gP Z*(18446744073709551616*wv S):=s9 _ (s9 _ a);rw [AH,←Ac,show Z.length.succ=N from f] at g;rw [Ap] at h;omega
  refine ⟨b,?_⟩;have j:wv (Z++[top])<wv V:=by
   rw [yO];rw [b,Bp,AJ] at h;exact h
  have p:=i z gN;show z+18446744073709551616*wv (Z++[top])<_;omega
theorem zop (P Z S:List Nat)(top:Nat):wv (P++(Z++top::S))=wv P+18446744073709551616^gP P*(wv (Z++[top])+18446744073709551616^(gP Z+1)*wv S):=by
 rw [show Z++top::S=(Z++[top])++S from by simp,wZ,wZ,k0,nP]
theorem znt {P S a V Q:List Nat}{b q c:Nat}(g:gP a=gP Z)(f:wv (a++[b])+wv V*q=wv (Z++[top]))(e:c=wv (P++(Z++top::S))+wv V*wv Q*18446744073709551616^(gP P+1)):
  c=wv (P++(a++b::S))+wv V*wv (q::Q)*18446744073709551616^gP P:=by
 rw [zop] at e ⊢;rw [e,g,←f,Ac _ (gP P),show wv (q::Q)=q+18446744073709551616*wv Q from rfl];generalize 18446744073709551616^gP P=A;generalize 18446744073709551616^(gP Z+1)*wv S=T;generalize wv (a++[b])=U;generalize wv V=v;generalize wv Q=w;rw [Ap v,An,Ap A,Ap A,Ap A];have i:v*(18446744073709551616*w)*A=v*w*(A*18446744073709551616):=by
  rw [Be v,pe A,←Ah (v*w),pe (v*w)]
 have j:A*(v*q)=v*q*A:=pe _ _;omega
theorem ziy {a V:List Nat}{c:Nat}(b:gP a=N)(G:gP Z=N)(i:WdD a)(l:0<wv V)(D:wv a+wv V*d=wv Z+c*18446744073709551616^N)(u:wv (Z++[top])/wv V≤d)(s:d≤wv (Z++[top])/wv V+1):
  (c≤top→d=wv (Z++[top])/wv V∧wv (a++[top-c])=wv (Z++[top])%wv V)∧(top<c→d=wv (Z++[top])/wv V+1∧wv (Z++[top])%wv V+(c-top)*18446744073709551616^N=wv a+wv V):=by
 have w:=wW i;rw [b] at w;have K:wv (Z++[top])=wv Z+18446744073709551616^N*top:=by rw [yO,G]
 have j:∀t,wv (a++[t])=wv a+18446744073709551616^N*t:=fun t=>by rw [yO,b]
 have e:=AE (wv (Z++[top])) (wv V);have B:=Az (wv (Z++[top])) l;obtain ⟨q,H⟩:∃q,q=wv (Z++[top])/wv V:=⟨_,rfl⟩;obtain ⟨r,I⟩:∃r,r=wv (Z++[top])%wv V:=⟨_,rfl⟩;rw [←H] at e u s ⊢;rw [←I] at e B ⊢;generalize 18446744073709551616^N=P at*
 generalize wv V=v at*
 generalize wv Z=z at*
 have p:d=q∨d=q+1:=zo;constructor
 ·intro o;obtain ⟨y,g⟩:∃y,top=c+y:=⟨top-c,zo⟩;rw [j];have f:top-c=y:=zo;have F:P*top=c*P+P*y:=by rw [g,Ap,pe P c]
  rw [f];rcases p with rfl|rfl
  ·exact ⟨rfl,zo⟩
  rw [Ap,AH] at D;omega
 intro o;obtain ⟨y,g⟩:∃y,c=top+(y+1):=⟨c-top-1,zo⟩;have f:c-top=y+1:=zo;have F:c*P=P*top+(y+1)*P:=by rw [g,An,pe P top]
 have J:(y+1)*P=y*P+P:=by rw [An,BR]
 rw [f];rcases p with rfl|rfl
 ·omega
 rw [Ap,AH] at D;exact ⟨rfl,zo⟩
theorem iY (k:Nat)(hA:Sl h n 1 (gS a1 l1 c1) (u64s A))(hC:Sl h n 1 (gS a2 l2 c2) (u64s C))(nA:NW A)(nC:NW C)(hb:gP A<10000000∧gP C<10000000)(a9:0<wv C):
  CF (cal (k+5)) 202 [gS a1 l1 c1,gS a2 l2 c2] h n fun v p n' w=>∃vq vr Lq Lr,v=.tuple #[vq,vr]∧w=[]∧n≤n'∧Ext n h p∧Sl p n' 1 vq (u64s Lq)∧NW Lq∧Sl p n' 1 vr (u64s Lr)∧NW Lr∧wv Lq=wv A/wv C∧wv Lr=wv A%wv C∧xC n vq∧(xC n vr∨vr=gS a1 l1 c1):=by
 refine zw (fn:=Tryz.f202) R4 ?_;have e1:=hA.lenW;have e2:=hC.lenW;subst e1 e2;refine Zd ?_;refine Zc ?_;refine yi _ R5 (uF (k+1) hA hC nA nC zo) ?_;rintro _ rfl;by_cases hlt:wv A<wv C
 ·rw [sM hlt];refine Zq ?_;exact retH [gS none 0 0,gS a1 (gP A) c1] R3 ⟨_,_,[],A,rfl,rfl,eU,Ext.refl _ _,.nil (.inl rfl),NW.nil,hA,nA,by rw [Cz hlt];rfl,by rw [Ab hlt],trivial,.inr rfl⟩
 have dw:¬cmpZ (wv A) (wv C)<0:=by
  rcases Bi (wv C) (wv A) with h|h
  ·rw [sO h];decide
  rw [show wv A=wv C from zo,jd];decide
 refine Zl ?_;by_cases hC1:gP C=1
 ·obtain ⟨y,rfl⟩:=Dp.1 hC1;have L:=nC.1 y gN;rw [pP] at a9 ⊢;rw [show [y].length=1 from rfl] at hC ⊢;refine Zr ?_;refine yE (f:=fun d:Nat=>gZ .u64 (d:Int)) (l:=[y]) (j:=0) R7 hC R2 rfl (fun _=>rfl) R4 fun _=>?_;refine zF _ R5 (zbo k zo nA.1 ⟨a9,L⟩ hA) ?_;rintro _ G g _ ⟨v1,L1,rfl,⟨rfl,ar,az,H,cx⟩,dk,_,d9⟩;obtain ⟨a3,l3,c3,rfl,_⟩:=H.len;refine Zm ?_;refine zF _ R5 (sH (k+3) G g (w:=wv A%y) (EZ (Az _ a9) L)) ?_;rintro v2 h2 n2 _ ⟨L2,⟨rfl,dd,a5,ax,cy⟩,dl,_,da⟩;obtain ⟨a4,l4,c4,rfl,_⟩:=ax.len;refine Zb ?_;exact retH [gS a3 l3 c3,gS a4 l4 c4] R3 ⟨_,_,L1,L2,rfl,rfl,by show n≤n2;omega,az.trans a5 ar,H.ext a5 dd,cx,ax,cy,dk,dl,d9,.inl (da.mono ar)⟩
 have e0:2≤gP C:=by
  rcases Bi (gP C) 2 with h|h
  ·have:gP C=0:=zo;rw [vT.1 this] at a9;exact eN a9 zd
  exact h
 obtain ⟨m,hm⟩:∃m,gP C=m+2:=⟨gP C-2,zo⟩;have dz:m+2≤gP A:=by
  rcases Bi (gP A) (gP C) with hl|hl
  ·have:=nA.len_lt nC hl;omega
  omega
 rw [hm] at hC ⊢;refine Zp ?_;obtain ⟨y1,af⟩:∃x,C[m+1]?=some x:=⟨C[m+1]'zo,kF zo⟩;have cu:=nC.1.get af;have ct:y1≠0:=by
  obtain ⟨i,d,bb⟩:=Go.Proofs.YtepkmadmigkgmaaGreatDoor.snoc (l:=C) (by intro e;rw [e] at hm;simp at hm);have dc:gP i=m+1:=by rw [bb] at hm;simp at hm;omega
  rw [bb,←dc,ux eU,AO] at af;have:d=y1:=by simpa using af
  rw [←this];exact NW.last (by rw [←bb];exact nC)
 repeat refine zR ?_
 refine yE (f:=fun d:Nat=>gZ .u64 (d:Int)) (j:=m+1) R7 hC ⟨rfl,zo⟩ af (fun _=>rfl) R4 fun _=>?_;refine yi _ R5 (fX (k+2) h n cu ct) ?_;rintro _ ⟨s,rfl,co,H,ax⟩;refine se (c:=s) R7 zo ?_;refine Zu ?_;refine zF _ R5 (tL (k+2) (m:=s) hC nC zo) ?_;rintro vV G g _ ⟨V,⟨rfl,ar,az,a0,nV⟩,bi,e4⟩;obtain ⟨an,bq,cj,ci⟩:=zh2 hm nC af H ax co nV bi;obtain ⟨aV,lV,cV,rfl,_⟩:=a0.len;have ao:=a0.lenW;rw [an] at ao;subst ao;refine Zm ?_;refine vB (len:=gP A+1) (cap:=gP A+1) R9 zo ?_;rw [show zn (gZ .u64 0)=[gZ .u64 0] from rfl,xO];generalize hh:upd G (3*g+2) _=h2;have aw:∃e,h2 (3*g+2)=some (.row (u64s (ns (gP A+1) 0)) e):=⟨_,by rw [←hh,zg]⟩;obtain ⟨eR,aw⟩:=aw;have a5:Ext g G h2:=by rw [←hh];exact Ext.upd zo
 clear hh;refine Zu ?_;refine zM ?_;refine zF _ R5 (tL (k+2) (m:=s) (hA.ext (az.trans a5 ar) (show n≤g+1 by omega)) nA zo) ?_;rintro vS h3 o _ ⟨S0,⟨rfl,e5,bj,ay,nS⟩,cd,_⟩;obtain ⟨aS,lS,cS,rfl,_⟩:=ay.len;have bo:=ay.lenW;subst bo;have c0:h3 (3*g+2)=_:=(bj _ zo).trans aw;have b0:=wW nA.1;have ch:wv S0<18446744073709551616^(gP A+1):=by
  rw [cd,Ac];have G:(2:Nat)^s<18446744073709551616:=Nat.pow_lt_pow_right zd (show s<64 by omega);have h2:wv A*2^s≤wv A*18446744073709551616:=s9 _ zo;have h3:wv A*18446744073709551616<18446744073709551616^gP A*18446744073709551616:=Ci b0 zd;omega
 have b5:gP S0≤gP A+1:=nS.len_le ch;refine lZ (m:=gP S0) R7 (uX ay) b5 c0 (by rw [zL,zL,ru];exact b5) (xW S0) (by show 3*n≤3*g+2;omega) ?_;rw [zL,rf,←vg,List.drop_replicate];obtain ⟨K,aa⟩:∃R,R=S0++ns (gP A+1-gP S0) 0:=⟨_,rfl⟩;rw [←aa];have b3:gP K=gP A+1:=by rw [aa,k0,ru];omega
 have b2:WdD K:=by rw [aa];exact nS.1.append (WdD.zeros _)
 have ag:wv K=wv A*2^s:=by rw [aa,wZ,dO,Bp,AJ,cd]
 generalize hh:upd h3 (3*g+2) _=h4;have c5:h4 (3*g+2)=some (.row (u64s K) eR):=by rw [←hh,zg]
 have ce:Ext g G h4:=fun b hb=>by rw [←hh,zm zo,bj b zo,a5 b hb]
 clear hh c0 aw a5 bj ay;refine zN ?_;obtain ⟨M,hM⟩:∃M,M=gP A-(m+2):=⟨_,rfl⟩;repeat refine zR ?_
 rw [show (gP A:Int)-((m+2:Nat):Int)+1=((M+1:Nat):Int) from zo];refine vB (len:=M+1) (cap:=M+1) R9 zo ?_;rw [show zn (gZ .u64 0)=[gZ .u64 0] from rfl,xO];generalize hh:upd h4 (3*o+2) _=h5;have au:∃e,h5 (3*o+2)=some (.row (u64s (ns (M+1) 0++[])) e):=⟨_,by rw [←hh,zg,Am]⟩;obtain ⟨eQ,au⟩:=au;have c6:h5 (3*g+2)=some (.row (u64s K) eR):=by rw [←hh,zm zo];exact c5
 have cf:Ext g G h5:=fun b hb=>by rw [←hh,zm zo,ce b hb]
 clear hh c5 ce;refine Zo ?_;have ad:wv (K.drop (M+1))<wv V:=by
  have G:=pu K (M+1) zo;have h2:18446744073709551616^(M+1)*wv (K.drop (M+1))<18446744073709551616^(M+1)*wv V:=by
   refine Aj (show _≤wv K by omega) ?_;rw [ag];have h3:(2:Nat)^s≤9223372036854775808:=sN zd (show s≤63 by omega);have h4:wv A*2^s≤wv A*9223372036854775808:=s9 _ h3;have h5:wv A*9223372036854775808<18446744073709551616^gP A*9223372036854775808:=Ci b0 zd;have h6:18446744073709551616^gP A*9223372036854775808=18446744073709551616^(M+1)*(18446744073709551616^(m+1)*9223372036854775808):=by
    rw [←Ah,←Bf,show M+1+(m+1)=gP A from zo]
   have h7:=s9 (18446744073709551616^(M+1)) ci;omega
  exact Nat.lt_of_mul_lt_mul_left h2
 have b6:0<wv V:=zo;refine ye (α:=Nat×List Nat×List Nat) (fun z=>[(8,gZ .i64 ((m+2:Nat):Int)),(9,gZ .u64 (s:Int)),(10,gS aV (m+2) cV),(11,gS (some ⟨3*g+2,0,none⟩) (gP A+1) (gP A+1)),(12,gS (some ⟨3*o+2,0,none⟩) (M+1) (M+1)),(13,gZ .i64 ((z.1:Int)-1))])
  (fun z p n' w=>n'=o+1∧w=[]∧Ext g G p∧p (3*g+2)=some (.row (u64s z.2.1) eR)∧p (3*o+2)=some (.row (u64s (ns z.1 0++z.2.2)) eQ)∧gP z.2.1=gP A+1∧WdD z.2.1∧z.1≤M+1∧gP z.2.2=M+1-z.1∧WdD z.2.2∧wv A*2^s=wv z.2.1+wv V*wv z.2.2*18446744073709551616^z.1∧wv (z.2.1.drop z.1)<wv V) (fun z=>z.1)
  (M+1,K,[]) ⟨rfl,rfl,rfl,rfl,rfl,by show gZ .i64 _=gZ .i64 _;congr 1;omega,eT⟩ ⟨rfl,rfl,cf,c6,au,b3,b2,eU,gN,WdD.nil,by rw [ag,show wv []=0 from rfl,Bp,Bg,AJ],ad⟩ (by show M+1<LL;unfold LL;omega) ?_
 clear c6 au cf ad ag b2 b3 aa;rintro ⟨j,R,Q⟩ t h6 _ _ ⟨rfl,rfl,bk,ac,ab,b4,T,hj,d2,b1,hE,J⟩;simp only at ac ab b4 T hj d2 b1 hE J;refine zN ?_;cases j with
 |zero=>
  rw [Av] at J;rw [CJ,Au] at ab;rw [BL,AH,bi] at hE;rw [bi] at J;obtain ⟨r1,r2⟩:=iZ (U:=wv A) (y:=wv C) (s:=s) (Q:=wv Q) (r:=wv R) (by rw [hE,Bj,pe (wv Q)]) J;refine Zg ?_;refine Zj ?_;have dj:=xi (k+3) (h:=h6) (n:=o+1) (a:=some ⟨3*o+2,0,none⟩) (len:=M+1) (cap:=M+1) (l:=Q) zo (fun _ e=>by injection e with e;rw [←e]) (xr zo ab zo);refine zF _ R5 dj ?_;rintro _ h6 _ _ ⟨rfl,rfl,rfl,rfl,dh⟩;repeat refine zR ?_
  have cr:=xi (k+3) (h:=h6) (n:=o+1) (a:=some ⟨3*g+2,0,none⟩) (len:=gP A+1) (cap:=gP A+1) (l:=R) zo (fun _ e=>by injection e with e;rw [←e]) (xr zo ac b4);refine zF _ R5 cr ?_;rintro _ h6 _ _ ⟨rfl,rfl,rfl,rfl,di⟩;obtain ⟨dq,dr⟩:=xD b1;obtain ⟨ds,dt⟩:=xD T;repeat refine zR ?_
  refine zF _ R5 (om (k+2) (m:=s) di ds (by have:=xU R;omega)) ?_;rintro vr h7 n7 _ ⟨L7,⟨rfl,de,a6,c8,cz⟩,dm,db⟩;obtain ⟨a7,l7,c7,rfl,_⟩:=c8.len;refine Zb ?_;exact retH [gS (some ⟨3*o+2,0,none⟩) (gP (yf Q)) (M+1),gS a7 l7 c7] R3 ⟨_,_,_,L7,rfl,rfl,by show n≤n7;omega,fun b hb=>(a6 b zo).trans ((bk b zo).trans (az b hb)),dh.ext a6 de,dq,c8,cz,by rw [dr,r1],by rw [dm,dt,r2],by show 3*n≤3*o+2;omega,.inl (db.mono zo)⟩
 |succ i=>
 obtain ⟨P,Z,top,S,d0,hP,hZ⟩:∃P Z top S,R=P++(Z++top::S)∧gP P=i∧gP Z=m+2:=by
  have hd:(R.drop i).drop (m+2)≠[]:=by
   intro e;have:=congrArg gP e;rw [sa,sa,C3] at this;omega
  obtain ⟨top,S,hS⟩:=List.exists_cons_of_ne_nil hd;exact ⟨R.take i,(R.drop i).take (m+2),top,S,by rw [←hS,Bm,Bm],by rw [sn];omega,by rw [sn,sa];omega⟩
 subst d0 hP;have b5:gP S+(gP P+m+3)=gP A+1:=by
  rw [←b4];simp only [k0,Ao];omega
 have d1:WdD P:=fun d hd=>T d (by simp [hd]);have b7:WdD Z:=fun d hd=>T d (by simp [hd]);have ca:top<18446744073709551616:=T top gN;have d4:WdD S:=fun d hd=>T d (by simp [hd]);obtain ⟨d3,ck⟩:=zli hZ b7 cj J zo;have bf:=(a0.ext bk (show g≤o+1 by omega));have bp:Off (3*g+2) (gS aV (m+2) cV):=a0.below.off zo;refine Zr ?_;refine rt (gP P) (gP P+m+3) R9 zo zo zo ?_;rw [show 0+gP P*1=gP P from zo,show (gP P)+m+3-gP P=m+3 from zo];repeat refine zR ?_
 have bs:Sl h6 (o+1) 1 (gS (some ⟨3*g+2,gP P,none⟩) (m+3) (gP A+1-gP P)) (u64s (Z++[top])):=by
  have:=dP (h:=h6) (n:=o+1) (b:=3*g+2) (cap:=gP A+1-gP P) (P:=P) (Z:=Z++[top]) (S:=S) (e:=eR) zo (by rw [ac];simp) (by rw [k0,nP];omega);rw [k0,nP,hZ] at this;exact this
 refine yi _ R5 (eO k bs bf (m:=m) ⟨by rw [k0,nP,hZ],an,WdD.snoc b7 ca,nV.1,bq,ck⟩ zo) ?_;rintro _ ⟨d,rfl,bv,d7,d8⟩;refine Zm ?_;refine rt (gP P) (gP P+(m+2)) R9 zo zo zo ?_;rw [show 0+gP P*1=gP P from zo,show (gP P)+(m+2)-gP P=gP Z from zo];repeat refine zR ?_
 refine zF _ R5 (zan (k+2) (n:=o+1) (b:=3*g+2) zo ac zo b7 bf nV.1 bp zo zo bv) ?_;rintro _ h7 _ w7 ⟨u,c,rfl,d6,⟨dn,rfl,a6,bd⟩,ah,du,bh⟩;try simp only [tH]
 rw [zV (w:=[]) fun y L=>by rw [dn y L];show 3*n≤3*g+2;omega];have Y:gP u=m+2:=zo;rw [hZ] at bh;obtain ⟨g1,g2⟩:=ziy Y hZ ah b6 bh d7 d8;have bw:h7 (3*o+2)=_:=(a6 _ zo zo).trans ab;have ak:Ext g G h7:=fun b hb=>by rw [a6 b zo zo,bk b hb]
 clear a6 ac ab bs;have cp:=(a0.ext ak (show g≤o+1 by omega));have ap:∀F,gP (P++(u++F::S))=gP A+1:=fun F=>by simp only [k0,Ao];omega
 have cn:∀F,(P++(u++F::S))[gP P+(m+2)]?=some F:=fun F=>by
  rw [ux zo,show (gP P)+(m+2)-gP P=gP u from zo,ux eU,AO];rfl
 have bg:∀(Z2:List Nat) F bn,gP Z2=m+2→(P++(Z2++F::S)).set (gP P+(m+2)) bn=P++(Z2++bn::S):=fun Z2 F bn h2=>by
  rw [A4 _ _ zo,show (gP P)+(m+2)-gP P=gP Z2 from zo,A4 _ _ eU,AO];rfl
 refine Zm ?_;refine yE (f:=fun d:Nat=>gZ .u64 (d:Int)) (j:=gP P+(m+2)) R7 (xr (n:=o+1) zo bd (ap top)) ⟨rfl,zo⟩ (cn top) (fun _=>rfl) R4 fun _=>?_;refine Zu ?_;refine zM ?_;refine zR ?_;refine Zc ?_;refine sd (a:=top) (b:=c) R6 ⟨ca,d6⟩ ?_;obtain ⟨O,cb⟩:∃x,x=(top+18446744073709551616-c)%18446744073709551616:=⟨_,rfl⟩;rw [←cb];have cq:O<18446744073709551616:=by rw [cb];exact Az _ zd
 refine uH (j:=gP P+(m+2)) (v:=gZ .u64 (O:Int)) R8 zo ⟨zo,by rw [zL,ap];omega⟩ bd (by show 3*n≤3*g+2;omega) (fun _=>rfl) R3 (fun _=>rfl) rfl fun _=>?_;rw [yk,bg u top O Y];generalize hh:upd h7 (3*g+2) _=h8;have be:h8 (3*g+2)=some (.row (u64s (P++(u++O::S))) eR):=by rw [←hh,zg]
 have bc:h8 (3*o+2)=some (.row (u64s (ns (gP P+1) 0++Q)) eQ):=by rw [←hh,zm zo];exact bw
 have bl:Ext g G h8:=fun b hb=>by rw [←hh,zm zo,ak b hb]
 clear hh bd bw ak cp;refine Zn ?_;refine lW R6 ?_;simp only [yu,xg,zK,yY];refine yj (α:=List Nat×Nat×Nat) (fun z=>[(8,gZ .i64 ((m+2:Nat):Int)),(9,gZ .u64 (s:Int)),(10,gS aV (m+2) cV),(11,gS (some ⟨3*g+2,0,none⟩) (gP A+1) (gP A+1)),(12,gS (some ⟨3*o+2,0,none⟩) (M+1) (M+1)),(13,gZ .i64 (gP P:Int)),(14,gZ .u64 (z.2.2:Int))])
  (fun z p n' w=>n'=o+1∧w=[]∧Ext g G p∧p (3*g+2)=some (.row (u64s (P++(z.1++z.2.1::S))) eR)∧p (3*o+2)=some (.row (u64s (ns (gP P+1) 0++Q)) eQ)∧gP z.1=m+2∧WdD z.1∧z.2.1<18446744073709551616∧z.2.2=wv (Z++[top])/wv V∧z.2.2<18446744073709551616∧wv (z.1++[z.2.1])=wv (Z++[top])%wv V) ?_ ?_
 ·by_cases hlt2:top<c;case neg=>
   obtain ⟨al,a8⟩:=g1 zo;rw [za (by show jx _=_;rw [cA zo])];refine zN ?_;have aj:O=top-c:=zo;exact zA (u,O,d) ⟨rfl,rfl,rfl,rfl,rfl,by show gZ .i64 _=gZ .i64 _;congr 1;omega,rfl,eT⟩ ⟨rfl,rfl,bl,be,bc,Y,ah,cq,al,bv,by simp only;rw [aj];exact a8⟩
  obtain ⟨al,a8⟩:=g2 hlt2;have dx:1≤d:=by rw [al];exact Nat.le_add_left _ _
  rw [ze (by show jx _=_;rw [eH zo])];refine Ze ?_;refine ym (a:=d) (b:=1) R6 zo ?_;refine Zo ?_;refine Zb ?_;refine ye (α:=List Nat×Nat) (fun z=>[(8,gZ .i64 ((m+2:Nat):Int)),(9,gZ .u64 (s:Int)),(10,gS aV (m+2) cV),(11,gS (some ⟨3*g+2,0,none⟩) (gP A+1) (gP A+1)),(12,gS (some ⟨3*o+2,0,none⟩) (M+1) (M+1)),(13,gZ .i64 (gP P:Int)),(14,gZ .u64 ((d-1:Nat):Int)),(17,gZ .u64 (z.2:Int)),(113,gS aV (m+2) cV),(114,gZ .i64 ((m+2:Nat):Int)),(115,gZ .i64 (gP z.1:Int))])
   (fun z p n' w=>n'=o+1∧w=[]∧Ext g G p∧p (3*g+2)=some (.row (u64s (P++((z.1++u.drop (gP z.1))++O::S))) eR)∧p (3*o+2)=some (.row (u64s (ns (gP P+1) 0++Q)) eQ)∧gP z.1≤m+2∧WdD z.1∧z.2≤1∧wv z.1+z.2*18446744073709551616^gP z.1=wv (u.take (gP z.1))+wv (V.take (gP z.1))) (fun z=>m+2-gP z.1)
   ([],0) ⟨rfl,rfl,rfl,rfl,rfl,by show gZ .i64 _=gZ .i64 _;congr 1;omega,rfl,rfl,rfl,rfl,rfl,eT⟩ ⟨rfl,rfl,bl,be,bc,gH,WdD.nil,by show (0:Nat)≤1;decide,by simp [wv,dv]⟩ (by show m+2-0<LL;unfold LL;omega) ?_
  clear be bc bl;rintro ⟨D,cc⟩ t h9 _ _ ⟨rfl,rfl,ae,B,av,cv,am,ba,W⟩;simp only at B cv am ba W;refine zN ?_;by_cases hDm:gP D=m+2
  ·have cl:u.drop (gP D)=[]:=by rw [hDm,←Y,BE]
   rw [cl,Am] at B;rw [hDm,←Y,xd,Y,←an,xd,an] at W;refine Zl ?_;have cg:=wW am;rw [hDm] at cg;have dy:=Az (wv (Z++[top])) b6;have dp:c-top=1∧cc=1:=by
    obtain ⟨y,L⟩:∃y,c-top=y+1:=⟨c-top-1,zo⟩;rw [L] at a8 ⊢;rw [←a8] at W;generalize 18446744073709551616^(m+2)=PP at*
    have e1:(y+1)*PP=y*PP+PP:=by rw [An,BR]
    rcases BN y with bm|bm
    ·subst bm;rcases BN cc with bu|bu
     ·subst bu;rw [Bg] at W;omega
     exact ⟨rfl,zo⟩
    have e2:1*PP≤y*PP:=o0 _ bm;have e3:cc*PP≤1*PP:=o0 _ ba;omega
   obtain ⟨cs,rfl⟩:=dp;have cw:wv D=wv (Z++[top])%wv V:=by
    rw [←a8,cs] at W;omega
   have aj:O=18446744073709551615:=zo;subst aj;repeat refine zR ?_
   refine yE (f:=fun d:Nat=>gZ .u64 (d:Int)) (j:=gP P+(m+2)) R7 (xr (n:=o+1) (l:=gP A+1) zo B (by simp only [k0,Ao];omega)) ⟨rfl,zo⟩ (show (P++(D++18446744073709551615::S))[gP P+(m+2)]?=some 18446744073709551615 from by rw [ux zo,show (gP P)+(m+2)-gP P=gP D from zo,ux eU,AO];rfl) (fun _=>rfl) R4 fun _=>?_;refine zM ?_;refine uo (a:=18446744073709551615) (b:=1) R6 ?_;rw [show (18446744073709551615+1)%18446744073709551616=0 from rfl];refine uH (j:=gP P+(m+2)) (v:=gZ .u64 ((0:Nat):Int)) R8 zo ⟨zo,by rw [zL];simp only [k0,Ao];omega⟩ B (by show 3*n≤3*g+2;omega) (fun _=>rfl) R3 (fun _=>rfl) rfl fun _=>?_;rw [yk,bg D _ 0 hDm];refine Zb ?_;exact zA (D,0,d-1) ⟨rfl,rfl,rfl,rfl,rfl,rfl,rfl,eT⟩ ⟨rfl,rfl,fun b hb=>(zm zo).trans (ae b hb),zg _ _ _,(zm zo).trans av,hDm,am,by show (0:Nat)<_;decide,by show d-1=_;rw [al];exact BM _ _,by show d-1<_;omega,by show wv (D++[0])=_;rw [yO,Bp,AJ,cw]⟩
  obtain ⟨y,L⟩:∃x,V[gP D]?=some x:=⟨V[gP D]'zo,kF zo⟩;obtain ⟨x,I⟩:∃x,u[gP D]?=some x:=⟨u[gP D]'zo,kF zo⟩;have e7:=nV.1.get L;have e6:=ah.get I;have aq:(P++((D++u.drop (gP D))++O::S)).length=gP A+1:=by simp only [k0,Ao,sa];omega
  refine Zr ?_;refine yE (f:=fun d:Nat=>gZ .u64 (d:Int)) (j:=gP D) R7 (a0.ext ae (show g≤o+1 by omega)) R2 L (fun _=>rfl) R4 fun _=>?_;refine Zm ?_;refine yE (f:=fun d:Nat=>gZ .u64 (d:Int)) (j:=gP P+gP D) R7 (xr (n:=o+1) zo B aq) ⟨rfl,zo⟩ (show (P++((D++u.drop (gP D))++O::S))[gP P+gP D]?=some x from by rw [ux zo,show (gP P)+gP D-gP P=gP D from zo,AG (by rw [k0,sa];omega)];exact uy I) (fun _=>rfl) R4 fun _=>?_;repeat refine zR ?_
  refine vt (x:=x) (y:=y) (c:=cc) R5 ba ?_;obtain ⟨s1,H⟩:∃z,z=(x+y+cc)%18446744073709551616:=⟨_,rfl⟩;obtain ⟨c1,b9⟩:∃z,z=(x+y+cc)/18446744073709551616:=⟨_,rfl⟩;rw [←H,←b9];repeat refine zR ?_
  refine uH (j:=gP P+gP D) (v:=gZ .u64 (s1:Int)) R8 zo ⟨zo,by rw [zL,aq];omega⟩ B (by show 3*n≤3*g+2;omega) (fun _=>rfl) R3 (fun _=>rfl) rfl fun _=>?_;rw [yk,kg _ I];refine Zo ?_;have dg:s1<18446744073709551616:=by rw [H];exact Az _ zd
  have cm:c1≤1:=by rw [b9];omega
  have df:18446744073709551616*c1+s1=x+y+cc:=by rw [H,b9];omega
  refine goOn (D++[s1],c1) (by show m+2-gP (D++[s1])<m+2-gP D;rw [k0,nP];omega) ⟨rfl,rfl,rfl,rfl,rfl,rfl,rfl,rfl,rfl,rfl,by show gZ .i64 _=gZ .i64 _;rw [k0];rfl,eT⟩ ⟨rfl,rfl,fun b hb=>(zm zo).trans (ae b hb),zg _ _ _,(zm zo).trans av,by show gP (D++[s1])≤_;rw [k0,nP];omega,WdD.snoc am dg,cm,?_⟩;simp only;rw [k0,nP,yO,zQ I,zQ L,Ac];have:=nK W df;omega
 rintro ⟨Zf,F,q⟩ t h9 _ _ ⟨rfl,rfl,ae,B,av,bt,b8,c9,bx,bz,ai⟩;simp only at B bt b8 c9 bx bz ai;refine Zj ?_;refine uH (j:=gP P) (v:=gZ .u64 (q:Int)) R8 rfl ⟨zo,by rw [zL,k0,ru];omega⟩ av (by show 3*n≤3*o+2;omega) (fun _=>rfl) R3 (fun _=>rfl) rfl fun _=>?_;rw [yk,cH];refine Zo ?_;have d5:wv (Zf++[F])+wv V*q=wv (Z++[top]):=by rw [ai,bx,Bj];exact AE _ _
 have br:=znt (P:=P) (S:=S) (V:=V) (Q:=Q) (bt.trans hZ.symm) d5 hE;refine goOn (gP P,P++(Zf++F::S),q::Q) (by show gP P<gP P+1;omega) ⟨rfl,rfl,rfl,rfl,rfl,rfl,eT⟩ ⟨rfl,rfl,fun b hb=>(zm zo).trans (ae b hb),(zm zo).trans B,zg _ _ _,by simp only [k0,Ao];omega,d1.append (b8.append (fun x I=>by
  rcases Ad.1 I with rfl|I
  ·exact c9
  ·exact d4 x I)),by show gP P≤_;omega,by show gP (q::Q)=_;rw [Ao];omega,fun x I=>by
  rcases Ad.1 I with rfl|I
  ·exact bz
  ·exact b1 x I,br,?_⟩
 simp only;rw [D7 rfl,show Zf++F::S=(Zf++[F])++S from by simp,wZ,d3,Bp,AJ,ai];exact Az _ b6
end Go.Proofs.YtepkmadmigkgmaaGreatDoor
namespace Go.Proofs.YtepkmadmigkgmaaGreatDoor
variable {B m r0 r1 u u0 u1 u2 v1 v2:Nat}{odd:Bool}
def sg (odd:Bool):Int:=if odd then -1 else 1
theorem mJ (o:Bool):sg (!o)= - sg o:=by cases o<;>rfl
theorem zpd (o:Bool):sg o*sg o=1:=by cases o<;>rfl
def lp (A B:Nat)(s:Int)(u v:Nat):Int:=s*((u:Int)*A-(v:Int)*B)
structure LehS (A B r0 r1 E:Nat):Prop where
 a:E*r0≤A∧A<E*r0+E
 b:E*r1≤B∧B<E*r1+E
 le:B≤A
 pos:1≤B
structure Leh (A B r0 r1:Nat)(x y u0 u1 u2 v0 v1 v2:Nat)(odd:Bool):Prop where
 hx:(x:Int)=lp r0 r1 (sg odd) u1 v1
 hy:(y:Int)=lp r0 r1 (- sg odd) u2 v2
 det:(u1:Int)*v2-u2*v1=sg odd
 le:u2≤v2∧u1+u2≤v1+v2∧1≤v2
 yx:y≤x
 gcd:Hy (lp A B (sg odd) u1 v1) (lp A B (- sg odd) u2 v2)=rp A B
 sum:(v1=0∧u1=1∧u2=0∧v2=1∧odd=false)∨(1≤v1∧lp A B (sg odd) u1 v1+lp A B (- sg odd) u2 v2≤A∧lp A B (sg odd) u1 v1≤B)
 out:v0=0∨(0≤lp A B (sg odd) u1 v1∧lp A B (sg odd) u1 v1≤lp A B (- sg odd) u0 v0∧Hy (lp A B (- sg odd) u0 v0) (lp A B (sg odd) u1 v1)=rp A B∧lp A B (- sg odd) u0 v0+lp A B (sg odd) u1 v1≤A∧lp A B (- sg odd) u0 v0≤B)
theorem Leh.init {A:Nat}(h:r1≤r0):Leh A B r0 r1 r0 r1 0 1 0 0 0 1 false:=by
 refine ⟨by simp [lp,sg],by simp [lp,sg],by simp [sg],zo,h,by simp [lp,sg],.inl ⟨rfl,rfl,rfl,rfl,rfl⟩,.inl rfl⟩
theorem zkm {A E:Nat}(c:LehS A B r0 r1 E){s:Int}(d:s=1∨s= -1){v z:Nat}(i:(z:Int)=lp r0 r1 s u v)(D:u≤m)(F:v≤m)(hm:m≤z):0≤lp A B s u v:=by
 obtain ⟨α,j⟩:∃α,A=E*r0+α:=⟨A-E*r0,by have:=c.a;omega⟩;obtain ⟨β,l⟩:∃β,B=E*r1+β:=⟨B-E*r1,by have:=c.b;omega⟩;have y:α<E:=by have:=c.a;omega
 have C:β<E:=by have:=c.b;omega
 have f:u*α≤z*E:=Ar zo zo;have g:v*β≤z*E:=Ar zo zo;have o:(u:Int)*α≤z*E:=by exact_mod_cast f
 have p:(v:Int)*β≤z*E:=by exact_mod_cast g
 have q:(0:Int)≤(u:Int)*α:=by exact_mod_cast CO (u*α)
 have w:(0:Int)≤(v:Int)*β:=by exact_mod_cast CO (v*β)
 have e:lp A B s u v=z*E+s*(u*α - v*β):=by
  rw [i];unfold lp;rw [j,l]
  push_cast
  grind
 rw [e];rcases d with rfl|rfl<;>omega
theorem zho (o:Bool):sg o=1∨sg o= -1:=by cases o<;>simp [sg]
theorem zdk (o:Bool): - sg o=1∨ - sg o= -1:=by cases o<;>simp [sg]
theorem zkn (A B:Nat)(s:Int)(u v a v':Nat):lp A B s u v+lp A B s a v'=lp A B s (u+a) (v+v'):=by
 unfold lp;push_cast;grind
theorem iE (A B:Nat)(s:Int)(u v:Nat):lp A B (- s) u v= - lp A B s u v:=by
 unfold lp;grind
theorem Leh.step {A E x y V:Nat}(G:LehS A B r0 r1 E)(h:Leh A B r0 r1 x y u0 u1 u2 V v1 v2 odd)(L:v2≤y)(M:v1+v2≤x-y):
  Leh A B r0 r1 y (x%y) u1 u2 (u1+x/y*u2) v1 v2 (v1+x/y*v2) (!odd)∧u1+x/y*u2≤r0∧v1+x/y*v2≤r0∧x%y<y∧1≤y:=by
 obtain ⟨o,e,f,⟨H,U,Z⟩,K,C,d,T⟩:=h;have a:1≤y:=zo;have b:x%y<y:=Az _ a;have Y:1≤x/y:=(Gx a).2 K;have j:x%y+x/y*y=x:=by rw [pe];exact Nat.mod_add_div x y
 generalize hqq:x/y=q at*
 generalize hrr:x%y=r at*
 -- the pair at hand
 have J:0≤lp A B (- sg odd) u2 v2:=zkm G (zdk odd) e H eU L;have I:0≤lp A B (sg odd) (u1+u2) (v1+v2):=by
  refine zkm G (zho odd) (z:=x-y) ?_ U eU M;rw [←zkn,Int.natCast_sub K,o,e,iE];omega
 rw [←zkn] at I;have W:lp A B (- sg odd) u2 v2= - lp A B (sg odd) u2 v2:=iE ..;have c:lp A B (sg odd) (u1+q*u2) (v1+q*v2)=lp A B (sg odd) u1 v1-q*lp A B (- sg odd) u2 v2:=by
  rw [iE];unfold lp;push_cast;grind
 have D:lp A B (- sg odd) u2 v2≤q*lp A B (- sg odd) u2 v2:=by
  have:=Int.mul_le_mul_of_nonneg_right (show (1:Int)≤q by omega) J;omega
 have F:(r0:Int)=v2*x+v1*y:=by
  rw [o,e,iE];unfold lp;have s:=zpd odd;rw [←f] at*
  grind
 have l:r0=v2*x+v1*y:=by exact_mod_cast F
 have i:v1+q*v2≤r0:=by
  rw [l,←j];have s:v1≤v1*y:=BG _ a;have N:q*v2≤q*v2*y:=BG _ a;have O:v2*(r+q*y)=v2*r+q*v2*y:=by grind
  omega
 have g:u1+q*u2≤v1+q*v2:=by
  obtain ⟨p,rfl⟩:∃p,q=p+1:=⟨q-1,zo⟩;have s:p*u2≤p*v2:=s9 _ H;have N:(p+1)*u2=p*u2+u2:=Bo _ _;have O:(p+1)*v2=p*v2+v2:=Bo _ _;omega
 refine ⟨⟨?_,?_,?_,?_,Bh b,?_,?_,?_⟩,Aa g i,i,b,a⟩
 ·rw [mJ];exact e
 ·rw [mJ,Dk];have:(r:Int)=x-q*y:=by (have:(x:Int)=r+q*y:=by exact_mod_cast j.symm);omega
  rw [this,o,e];unfold lp;push_cast;grind
 ·rw [mJ,←f];push_cast;grind
 ·refine ⟨g,zo,zo⟩
 ·rw [mJ,Dk,c,←C];rw [Int.gcd_comm];simp [Int.mul_comm]
 ·right;rw [mJ,Dk,c];rcases d with ⟨rfl,rfl,rfl,rfl,rfl⟩|⟨_,S,w⟩
  ·have P:lp A B (sg false) 1 0=A:=by simp [lp,sg]
   have v:lp A B (- sg false) 0 1=B:=by simp [lp,sg]
   rw [v] at D;rw [P,v];exact ⟨zo,zo,zo⟩
  exact ⟨zo,zo,zo⟩
 rw [mJ,Dk];rcases d with ⟨R,_⟩|⟨_,S,w⟩
 ·exact .inl R
 right;exact ⟨J,zo,C,zo,w⟩
theorem Leh.tot {A x y e:Nat}(h:Leh A B r0 r1 x y u0 u1 u2 e v1 v2 odd):r0=v2*x+v1*y:=by
 obtain ⟨c,d,a,_,_,_,_,_⟩:=h;have b:(r0:Int)=v2*x+v1*y:=by
  rw [c,d,iE];unfold lp;have f:=zpd odd;rw [←a] at*
  grind
 exact_mod_cast b
theorem LehS.r_le {A E:Nat}(h:LehS A B r0 r1 E):r1≤r0:=by
 rcases Bi r0 r1 with c|c
 ·have d:=s9 E c;rw [FG] at d;have:=h.a;have:=h.b;have:=h.le;omega
 exact c
theorem Leh.done {A x y c:Nat}(h:Leh A B r0 r1 x y u0 u1 u2 c v1 v2 odd)(j:c≠0):
  ∃a b:Nat,(odd=false→c*B=u0*A+a∧u1*A=v1*B+b)∧(odd=true→u0*A=c*B+a∧v1*B=u1*A+b)∧b≤a∧rp a b=rp A B∧a+b≤A∧a≤B:=by
 rcases h.out with f|⟨g,l,i,o,p⟩
 ·exact eN f j
 generalize e1:lp A B (sg odd) u1 v1=b at*
 generalize e2:lp A B (- sg odd) u0 c=a at*
 obtain ⟨e,rfl⟩:=Fx g;obtain ⟨d,rfl⟩:=Fx (show (0:Int)≤a by omega);refine ⟨d,e,?_,?_,zo,by simpa using i,zo,zo⟩
 ·rintro rfl;simp only [lp,sg] at e1 e2;constructor
  ·have:(c:Int)*B=u0*A+d:=by simp at e2;grind
   exact_mod_cast this
  have:(u1:Int)*A=v1*B+e:=by simp at e1;grind
  exact_mod_cast this
 rintro rfl;simp only [lp,sg] at e1 e2;constructor
 ·have:(u0:Int)*A=c*B+d:=by simp at e2;grind
  exact_mod_cast this
 have:(v1:Int)*B=u1*A+e:=by simp at e1;grind
 exact_mod_cast this
end Go.Proofs.YtepkmadmigkgmaaGreatDoor
namespace Go.Proofs.YtepkmadmigkgmaaGreatDoor
open Go Go.GL
variable {h h' h1 h2:HF}{n m n0 off b i lo n' bt m' sz nt kk cy lx ly bytes size len c1 c2 l1 l2 c' cr u0 u1 v1 n1 n2 fx fy gx gy P U V d B r:Nat}{ops:List Oper}{w ms C A X Z T:List Nat}{Q:SV→Prop}{args cl cs vs c:List Value}{al ld:List (Nat×Nat)}{ef:List (Nat×HF×List Nat)}{ty ty' eB e' xT:TypeId}{fn:Func}{sx sy odd dx dy:Bool}{ax ay a1 a2 ex ey:Option Addr}{v x4 x5 x6:Value}{f:FuncId}{q:Rat}{E:Env}{α:Type}{y:Operand}
variable {h0:HF}
theorem ng (k:Nat)(j:Sl h n 1 (gS a1 l1 c1) (u64s A))(l:Sl h n 1 (gS a2 l2 c2) (u64s C))(O:NW A)(R:NW C)(hb:gP A<10000000∧gP C<80)(o:0<wv C):
  CF (cal (k+6)) 171 [gS a1 l1 c1,gS a2 l2 c2] h n fun v g i w=>∃d c a b,v=.tuple #[d,c]∧w=[]∧n≤i∧Ext n h g∧Sl g i 1 d (u64s a)∧NW a∧Sl g i 1 c (u64s b)∧NW b∧wv a=wv A/wv C∧wv b=wv A%wv C∧xC n d∧(xC n c∨c=gS a1 l1 c1):=by
 refine zw (fn:=Tryz.f171) R4 ?_;have I:=j.lenW;have J:=l.lenW;subst I J;refine Zd ?_;refine Zl ?_;refine Zc ?_;refine zF _ R5 (iY k j l O R zo o) ?_;rintro _ S T _ ⟨d,c,a,b,rfl,rfl,s,B,e,u,f,y,K,L,p,q⟩;obtain ⟨D,M,G,rfl,_⟩:=e.len;obtain ⟨F,N,H,rfl,_⟩:=f.len;refine Zb ?_;exact retH [gS D M G,gS F N H] R3 ⟨_,_,a,b,rfl,rfl,s,B,e,u,f,y,K,L,p,q⟩
theorem fc {x0 x1 s:Nat}(g:U<P)(d:s≤64):P*2^(64-s)*(x1*2^s+x0/2^(64-s))≤U+P*(x0+18446744073709551616*x1)∧U+P*(x0+18446744073709551616*x1)<P*2^(64-s)*(x1*2^s+x0/2^(64-s))+P*2^(64-s):=by
 have f:=AE x0 (2^(64-s));have b:=Az x0 (AW (n:=64-s) (show 0<2 by decide));have c:=fa d;generalize 2^(64-s)=D at*
 generalize 2^s=S at*
 have e:x0+18446744073709551616*x1=D*(x1*S+x0/D)+x0%D:=by
  have a:D*(x1*S)=18446744073709551616*x1:=by rw [Be,←c,pe]
  rw [Ap,a];omega
 generalize x1*S+x0/D=R at*
 generalize x0%D=m at*
 rw [e,Ap,←Ah];have a:=s9 P (show m+1≤D from b);rw [FG] at a;omega
theorem lE {x0 x1:Nat}(b:gP X=m+2)(h0:X[m]?=some x0)(a:X[m+1]?=some x1):wv X=wv (X.take m)+18446744073709551616^m*(x0+18446744073709551616*x1):=by
 have e:wv X=wv (X.take (m+2)):=by rw [←b,xd]
 rw [e,zQ a,zQ h0,Ac,Ap,Ah,EB]
theorem zlh {x0:Nat}(a:gP X=m+1)(h0:X[m]?=some x0):wv X=wv (X.take m)+18446744073709551616^m*x0:=by
 have e:wv X=wv (X.take (m+1)):=by rw [←a,xd]
 rw [e,zQ h0]
theorem uY (a:WdD X)(hm:m≤gP X):wv (X.take m)<18446744073709551616^m:=by
 have:=wW (a.take m);rw [sn,AN hm] at this;exact this
theorem zoy {x0 x1 i a:Nat}(o:gP A=m+2)(p:gP C=m+2)(c:WdD A)(b:A[m]?=some x0)(e:A[m+1]?=some x1)(f:C[m]?=some i)(g:C[m+1]?=some a)(d:wv C≤wv A):a≤x1:=by
 rcases Bi x1 a with h|h
 ·have q:=uY c (m:=m) zo;have s:=c.get b;rw [lE o b e,lE p f g] at d;generalize 18446744073709551616^m=P at*
  have j:x0+18446744073709551616*x1+1≤i+18446744073709551616*a:=zo;have l:=s9 P j;rw [FG] at l;omega
 exact h
def SimR (A B:Nat)(v:Value):Prop:=∃x y u0 u1 u2 v0 v1 v2 r0 r1:Nat,∃odd:Bool,v=.agg #[gZ .u64 (u0:Int),gZ .u64 (u1:Int),gZ .u64 (v0:Int),gZ .u64 (v1:Int),jx odd]∧Leh A B r0 r1 x y u0 u1 u2 v0 v1 v2 odd∧u0≤18446744073709551615∧u1≤18446744073709551615∧v0≤18446744073709551615∧v1≤18446744073709551615
structure LSt where
 x:Nat
 y:Nat
 u0:Nat
 u1:Nat
 u2:Nat
 v0:Nat
 v1:Nat
 v2:Nat
 odd:Bool
def LSt.row (z:LSt):List Value:=[gZ .u64 (z.u0:Int),gZ .u64 (z.u1:Int),gZ .u64 (z.v0:Int),gZ .u64 (z.v1:Int),jx z.odd]
def LSt.bd (z:LSt):Prop:=z.x≤18446744073709551615∧z.u0≤18446744073709551615∧z.u1≤18446744073709551615∧z.u2≤18446744073709551615∧z.v0≤18446744073709551615∧z.v1≤18446744073709551615∧z.v2≤18446744073709551615
theorem fC (k:Nat)(hA:Sl h n 1 (gS a1 l1 c1) (u64s A))(hC:Sl h n 1 (gS a2 l2 c2) (u64s C))(nA:NW A)(Y:NW C)(hb:gP A<10000000)(a6:wv C≤wv A)(ba:2≤gP A)(ab:0<wv C):
  CF (cal (k+3)) 170 [gS a1 l1 c1,gS a2 l2 c2] h n fun v R n' w=>w=[]∧n≤n'∧Ext n h R∧SimR (wv A) (wv C) v:=by
 refine zw (fn:=Tryz.f170) R4 ?_;have e1:=hA.lenW;have e2:=hC.lenW;subst e1 e2;have bb:gP C≤gP A:=by
  rcases Bi (gP A) (gP C) with hl|hl
  ·have:=nA.len_lt Y hl;omega
  exact hl
 obtain ⟨m,T⟩:∃m,gP A=m+2:=⟨gP A-2,zo⟩;obtain ⟨I,G⟩:∃x,A[m+1]?=some x:=⟨A[m+1]'zo,kF zo⟩;obtain ⟨L,a9⟩:∃x,A[m]?=some x:=⟨A[m]'zo,kF zo⟩;have aq:=nA.1.get G;have V:=nA.1.get a9;have ap:I≠0:=by
  obtain ⟨i,d,ad⟩:=Go.Proofs.YtepkmadmigkgmaaGreatDoor.snoc (l:=A) (by intro e;rw [e] at T;simp at T);have av:gP i=m+1:=by rw [ad] at T;simp at T;omega
  rw [ad,←av,ux eU,AO] at G;have:d=I:=by simpa using G
  rw [←this];exact NW.last (by rw [←ad];exact nA)
 rw [T] at hA ⊢;refine zN ?_;refine xV R5 ?_;generalize hh:upd h (3*n+2) _=h1;have a4:Ext n h h1:=by rw [←hh];exact Ext.upd zo
 have J:∃e,h1 (3*n+2)=some (.row [gZ .u64 0,gZ .u64 0,gZ .u64 0,gZ .u64 0,jx false] e):=⟨_,by rw [←hh,zg];rfl⟩;clear hh;have a0:=hA.ext a4 (Al n);have a3:=hC.ext a4 (Al n);refine Zy ?_;refine yE (f:=fun d:Nat=>gZ .u64 (d:Int)) (j:=m+1) R7 a0 ⟨rfl,zo⟩ G (fun _=>rfl) R4 fun _=>?_;refine yi _ R5 (fX k h1 (n+1) aq ap) ?_;rintro _ ⟨s,rfl,az,bc,a8⟩;refine se (c:=s) R7 zo ?_;refine Zb ?_;have a7:∀x,x<18446744073709551616→x/2^(64-s)<2^s:=fun x hx=>zj6 zo hx;obtain ⟨K,ae⟩:∃r,r=I*2^s+L/2^(64-s):=⟨_,rfl⟩;have an:K≤18446744073709551615:=by
  have:=zdi (w:=I) (s:=s) zo (a7 L V);rw [Ab a8] at this;omega
 obtain ⟨E,hE⟩:∃E,E=18446744073709551616^m*2^(64-s):=⟨_,rfl⟩;have B:=fc (U:=wv (A.take m)) (x0:=L) (x1:=I) (s:=s) (uY nA.1 zo) zo;rw [←lE T a9 G,←hE,←ae] at B;rw [wb rfl];repeat refine zR ?_
 refine yE (f:=fun d:Nat=>gZ .u64 (d:Int)) (j:=m+1) R7 a0 ⟨rfl,zo⟩ G (fun _=>rfl) R4 fun _=>?_;refine zM ?_;refine xK (a:=I) (s:=s) R6 zo ?_;rw [Ab a8];repeat refine zR ?_
 refine yE (f:=fun d:Nat=>gZ .u64 (d:Int)) (j:=m) R7 a0 ⟨rfl,zo⟩ a9 (fun _=>rfl) R4 fun _=>?_;refine zM ?_;refine ym (a:=64) (b:=s) R6 zo ?_;refine yn (a:=L) (s:=64-s) R6 zo ?_;refine wG (a:=I*2^s) (b:=L/2^(64-s)) R6 ⟨a8,Aj (A3 _ _) V⟩ ?_;rw [jZ (a7 L V),←ae];refine Zb ?_;refine Zm ?_;simp only [yu,xg,zK,yY];refine yj (α:=Nat) (fun z=>[(4,mo (some ⟨3*n+2,0,none⟩)),(7,gZ .u64 (K:Int)),(8,gZ .u64 (z:Int))])
  (fun z R n' w=>h1=R∧n+1=n'∧w=[]∧LehS (wv A) (wv C) K z E) ?_ ?_
 ·refine zN ?_;by_cases hl2:gP C=m+2
  ·obtain ⟨y1,N⟩:∃x,C[m+1]?=some x:=⟨C[m+1]'zo,kF zo⟩;obtain ⟨M,F⟩:∃x,C[m]?=some x:=⟨C[m]'zo,kF zo⟩;have b9:=Y.1.get N;have W:=Y.1.get F;have al:=zoy T hl2 nA.1 a9 G F N a6;have ak:y1*2^s<18446744073709551616:=Aj (o0 _ al) a8;have D:=fc (U:=wv (C.take m)) (x0:=M) (x1:=y1) (s:=s) (uY Y.1 zo) zo;rw [←lE hl2 F N,←hE] at D;refine Zh ?_;rw [wb rfl];repeat refine zR ?_
   refine yE (f:=fun d:Nat=>gZ .u64 (d:Int)) (j:=m+1) R7 a3 ⟨rfl,zo⟩ N (fun _=>rfl) R4 fun _=>?_;refine zM ?_;refine xK (a:=y1) (s:=s) R6 zo ?_;rw [Ab ak];repeat refine zR ?_
   refine yE (f:=fun d:Nat=>gZ .u64 (d:Int)) (j:=m) R7 a3 ⟨rfl,zo⟩ F (fun _=>rfl) R4 fun _=>?_;refine zM ?_;refine ym (a:=64) (b:=s) R6 zo ?_;refine yn (a:=M) (s:=64-s) R6 zo ?_;refine wG (a:=y1*2^s) (b:=M/2^(64-s)) R6 ⟨ak,Aj (A3 _ _) W⟩ ?_;rw [jZ (a7 M W)];refine Zb ?_;exact zA (y1*2^s+M/2^(64-s)) ⟨rfl,rfl,rfl,eT⟩ ⟨rfl,rfl,rfl,⟨B,D,a6,ab⟩⟩
  refine Zl ?_;by_cases hl1:gP C=m+1
  ·obtain ⟨M,F⟩:∃x,C[m]?=some x:=⟨C[m]'zo,kF zo⟩;have W:=Y.1.get F;have D:=fc (U:=wv (C.take m)) (x0:=M) (x1:=0) (s:=s) (uY Y.1 zo) zo;rw [Bp,AJ,Bg,sb,←zlh hl1 F,←hE] at D;refine Zr ?_;refine yE (f:=fun d:Nat=>gZ .u64 (d:Int)) (j:=m) R7 a3 ⟨rfl,zo⟩ F (fun _=>rfl) R4 fun _=>?_;refine zM ?_;refine ym (a:=64) (b:=s) R6 zo ?_;refine yn (a:=M) (s:=64-s) R6 zo ?_;refine Zb ?_;exact zA (M/2^(64-s)) ⟨rfl,rfl,rfl,eT⟩ ⟨rfl,rfl,rfl,⟨B,D,a6,ab⟩⟩
  refine Zl ?_;refine zA 0 ⟨rfl,rfl,rfl,eT⟩ ⟨rfl,rfl,rfl,⟨B,⟨by rw [Bp];exact CO _,?_⟩,a6,ab⟩⟩;have g1:=wW Y.1;have g2:18446744073709551616^gP C≤18446744073709551616^m:=sN zd zo;have g3:18446744073709551616^m*1≤18446744073709551616^m*2^(64-s):=s9 _ (AW zd);rw [hE,Bp];omega
 clear B hE ae a7 a0 a3;rintro r1 t _ _ _ ⟨rfl,rfl,rfl,hS⟩;have ao:=hS.r_le;refine zN ?_;refine xV R5 ?_;generalize hh:upd h1 (3*(n+1)+2) _=h2;have ag:Ext n h h2:=fun b hb=>by rw [←hh,zm zo,a4 b hb]
 have aa:∃e,h2 (3*n+2)=some (.row [gZ .u64 0,gZ .u64 0,gZ .u64 0,gZ .u64 0,jx false] e):=by
  obtain ⟨e,J⟩:=J;exact ⟨e,by rw [←hh,zm zo];exact J⟩
 have q2:∃e,h2 (3*(n+1)+2)=some (.row [gZ .u64 0,gZ .u64 0,gZ .u64 0,gZ .u64 0,jx false] e):=⟨_,by rw [←hh,zg];rfl⟩;obtain ⟨e2,q2⟩:=q2;clear hh;refine Zj ?_;refine yF (cs:=[gZ .u64 1]) R8 q2 zb (by show 3*n≤3*(n+1)+2;omega) ?_;generalize hh:upd h2 (3*(n+1)+2) _=h3;have ah:Ext n h h3:=fun b hb=>by rw [←hh,zm zo,ag b hb]
 have af:∃e,h3 (3*n+2)=some (.row [gZ .u64 0,gZ .u64 0,gZ .u64 0,gZ .u64 0,jx false] e):=by
  obtain ⟨e,aa⟩:=aa;exact ⟨e,by rw [←hh,zm zo];exact aa⟩
 have q3:∃e,h3 (3*(n+1)+2)=some (.row (LSt.row ⟨K,r1,0,1,0,0,0,1,false⟩) e):=⟨e2,by rw [←hh,zg];rfl⟩;clear hh q2 aa;refine Zd ?_;refine ye (α:=LSt) (fun z=>[(4,mo (some ⟨3*n+2,0,none⟩)),(7,gZ .u64 (z.x:Int)),(8,gZ .u64 (z.y:Int)),(9,mo (some ⟨3*(n+1)+2,0,none⟩)),(10,gZ .u64 (z.u2:Int)),(11,gZ .u64 (z.v2:Int))])
  (fun z R n' w=>n'=n+1+1∧w=[]∧Ext n h R∧(∃e,R (3*n+2)=some (.row [gZ .u64 0,gZ .u64 0,gZ .u64 0,gZ .u64 0,jx false] e))∧(∃e,R (3*(n+1)+2)=some (.row z.row e))∧Leh (wv A) (wv C) K r1 z.x z.y z.u0 z.u1 z.u2 z.v0 z.v1 z.v2 z.odd∧z.bd) (fun z=>z.y)
  ⟨K,r1,0,1,0,0,0,1,false⟩ ⟨rfl,rfl,rfl,rfl,rfl,rfl,eT⟩ ⟨rfl,rfl,ah,af,q3,Leh.init ao,an,(show (0:Nat)≤18446744073709551615 by decide),(show (1:Nat)≤18446744073709551615 by decide),(show (0:Nat)≤18446744073709551615 by decide),(show (0:Nat)≤18446744073709551615 by decide),(show (0:Nat)≤18446744073709551615 by decide),(show (1:Nat)≤18446744073709551615 by decide)⟩ (by show r1<LL;unfold LL;omega) ?_
 clear a4 ag ah J af q3;rintro ⟨x,y,u0,p,H,Z,g,u,o⟩ t h4 _ _ ⟨rfl,rfl,a5,⟨e1,J⟩,⟨e4,O⟩,S,au⟩;obtain ⟨b1,b2,b3,b4,b5,b6,b7⟩:=au;simp only [LSt.row] at O S b1 b2 b3 b4 b5 b6 b7;have al:=S.yx;have b8:=S.tot;have hl:=S.le;refine zN ?_;by_cases g1:u≤y;case neg=>
  refine Zl ?_;refine z7 (v:=.agg #[gZ .u64 (u0:Int),gZ .u64 (p:Int),gZ .u64 (Z:Int),gZ .u64 (g:Int),jx o]) R5 (yw R2 O rfl zb rfl) ?_;refine yc [gZ .u64 (u0:Int),gZ .u64 (p:Int),gZ .u64 (Z:Int),gZ .u64 (g:Int),jx o] R8 J rfl (by show 3*n≤3*n+2;omega) ?_;refine zN ?_;exact uq R5 (zg _ _ _) rfl ⟨rfl,by show n≤n+1+1;omega,fun b hb=>(zm zo).trans (a5 b hb),⟨x,y,u0,p,H,Z,g,u,K,r1,o,rfl,S,b2,b3,b5,b6⟩⟩
 have b0:g+u≤K:=by
  have f1:u*1≤u*x:=s9 _ zo;have f2:g*1≤g*y:=s9 _ zo;omega
 refine Zv ?_;refine ZA ?_;refine ym (a:=x) (b:=y) R6 zo ?_;refine zM ?_;refine zT R6 O (v:=gZ .u64 (g:Int)) R2 ?_;refine zM ?_;refine yT (a:=g) (b:=u) R6 zo ?_;by_cases g2:g+u≤x-y;case neg=>
  refine Zl ?_;refine z7 (v:=.agg #[gZ .u64 (u0:Int),gZ .u64 (p:Int),gZ .u64 (Z:Int),gZ .u64 (g:Int),jx o]) R5 (yw R2 O rfl zb rfl) ?_;refine yc [gZ .u64 (u0:Int),gZ .u64 (p:Int),gZ .u64 (Z:Int),gZ .u64 (g:Int),jx o] R8 J rfl (by show 3*n≤3*n+2;omega) ?_;refine zN ?_;exact uq R5 (zg _ _ _) rfl ⟨rfl,by show n≤n+1+1;omega,fun b hb=>(zm zo).trans (a5 b hb),⟨x,y,u0,p,H,Z,g,u,K,r1,o,rfl,S,b2,b3,b5,b6⟩⟩
 obtain ⟨ac,aw,ax,aj,N⟩:=Leh.step hS S g1 g2;refine Zt ?_;obtain ⟨q,hq⟩:∃q,q=x/y:=⟨_,rfl⟩;obtain ⟨r,hr⟩:∃r,r=x%y:=⟨_,rfl⟩;rw [←hq] at ac aw ax;rw [←hr] at ac aj;refine Zc ?_;refine xN (a:=x) (b:=y) R6 ⟨zo,zo⟩ ?_;rw [←hq];refine Zb ?_;rw [wb rfl];refine ZA ?_;refine vO (a:=x) (b:=y) R6 zo ?_;rw [←hr];refine Zb ?_;refine zM ?_;refine zT R6 O (v:=gZ .u64 (p:Int)) R2 ?_;refine Zc ?_;refine zT R6 O (v:=gZ .u64 (p:Int)) R2 ?_;refine Zc ?_;refine xt (a:=q) (b:=H) R6 zo ?_;refine yT (a:=p) (b:=q*H) R6 zo ?_;refine zM ?_;refine yF (cs:=[gZ .u64 (p:Int)]) R8 O zb (by show 3*n≤3*(n+1)+2;omega) ?_;refine zM ?_;refine yF (cs:=[gZ .u64 (H:Int)]) R8 (zg _ _ _) zb (by show 3*n≤3*(n+1)+2;omega) ?_;rw [uk];generalize hh:upd h4 (3*(n+1)+2) _=h5;have ai:Ext n h h5:=fun b hb=>by rw [←hh,zm zo,a5 b hb]
 have am:=(show h5 (3*n+2)=h4 (3*n+2) from by rw [←hh,zm zo]).trans J;have q5:h5 (3*(n+1)+2)=some (.row [gZ .u64 (p:Int),gZ .u64 (H:Int),gZ .u64 (Z:Int),gZ .u64 (g:Int),jx o] e4):=by rw [←hh,zg];rfl
 clear hh O J a5;refine Zb ?_;refine zM ?_;refine zT R6 q5 (v:=gZ .u64 (g:Int)) R2 ?_;refine Zc ?_;refine zT R6 q5 (v:=gZ .u64 (g:Int)) R2 ?_;refine Zc ?_;refine xt (a:=q) (b:=u) R6 zo ?_;refine yT (a:=g) (b:=q*u) R6 zo ?_;refine zM ?_;refine yF (cs:=[gZ .u64 (g:Int)]) R8 q5 zb (by show 3*n≤3*(n+1)+2;omega) ?_;refine zM ?_;refine yF (cs:=[gZ .u64 (u:Int)]) R8 (zg _ _ _) zb (by show 3*n≤3*(n+1)+2;omega) ?_;rw [uk];generalize hh:upd h5 (3*(n+1)+2) _=h6;have ar:Ext n h h6:=fun b hb=>by rw [←hh,zm zo,ai b hb]
 have ay:=(show h6 (3*n+2)=h5 (3*n+2) from by rw [←hh,zm zo]).trans am;have q6:h6 (3*(n+1)+2)=some (.row [gZ .u64 (p:Int),gZ .u64 (H:Int),gZ .u64 (g:Int),gZ .u64 (u:Int),jx o] e4):=by rw [←hh,zg];rfl
 clear hh q5 am ai;refine Zb ?_;refine zM ?_;refine zT R6 q6 (v:=jx o) R2 ?_;refine Zc ?_;refine yF (cs:=[jx (!o)]) R8 q6 zb (by show 3*n≤3*(n+1)+2;omega) ?_;refine zN ?_;exact goOn ⟨y,r,p,H,p+q*H,g,u,g+q*u,!o⟩ aj ⟨rfl,rfl,rfl,rfl,rfl,rfl,eT⟩ ⟨rfl,rfl,fun b hb=>(zm zo).trans (ar b hb),⟨e1,(zm zo).trans ay⟩,⟨e4,(zg _ _ _).trans rfl⟩,ac,by show y≤_;omega,b3,b4,by show p+q*H≤_;omega,b6,b7,by show g+q*u≤_;omega⟩
section
variable {a cap l:Nat}{e:TypeId}
theorem kn {x w c s:Nat}(f:V+c*P=U*w)(g:18446744073709551616*c'+s=x*w+c):V+P*s+c'*(P*18446744073709551616)=(U+P*x)*w:=by
 have:=be (P:=P) (V:=V) (U:=0) (W:=U) (z:=0) (v:=x) (w:=w) (c:=c) (s:=s) (c':=c') (by rw [f,sb]) (by rw [g,sb]);rw [Bp,AJ,sb] at this;exact this
theorem zh4 {s t:Nat}(h:d+s*P=a+t*P)(f:d<P)(c:a<P):d=a:=by
 have:=congrArg (· %P) h;simp only [Nat.add_mul_mod_self_right,Ab f,Ab c] at this;exact this
theorem jj {D p q i j g c f:Nat}(u:p+i*P=c)(v:q+j*P=f)(h3:D+p=q+g*P)(w:f=c+a)(m:D<P)(o:a<P):D=a:=by
 refine zh4 (s:=j) (t:=g+i) (P:=P) ?_ m o;rw [An];omega
theorem cE {S D:List Nat}{x:Nat}(d:Nat)(hx:Z[gP D]?=some x):((D++Z.drop (gP D))++S).set (gP D) d=((D++[d])++Z.drop (gP (D++[d])))++S:=by
 have:=kg (P:=[]) (S:=S) d hx;rw [Au,Au,C3,sb] at this;exact this
theorem kI {S:List Nat}(hb:b<3*n)(g:h b=some (.row (u64s (Z++S)) e))(f:gP Z=l)(c:l≤cap):Sl h n 1 (gS (some ⟨b,0,none⟩) l cap) (u64s Z):=by
 subst f;exact dP (P:=[]) hb g c
structure ASt where
 D:List Nat
 F:List Nat
 cP:Nat
 cQ:Nat
 cR:Nat
 cT:Nat
 b1:Nat
 b2:Nat
 p:Nat
 q:Nat
 r:Nat
 t:Nat
def ASt.ok (A B:List Nat)(u0 u1 v0 v1:Nat)(odd:Bool)(z:ASt):Prop:=
 (gP z.D)≤gP A∧gP z.F=gP z.D∧WdD z.D∧WdD z.F∧z.cP<18446744073709551616∧z.cQ<18446744073709551616∧z.cR<18446744073709551616∧z.cT<18446744073709551616∧z.b1≤1∧z.b2≤1∧
 z.p+z.cP*18446744073709551616^gP z.D=wv (A.take (gP z.D))*u0∧z.q+z.cQ*18446744073709551616^gP z.D=wv (B.take (gP z.D))*v0∧z.r+z.cR*18446744073709551616^gP z.D=wv (B.take (gP z.D))*v1∧z.t+z.cT*18446744073709551616^gP z.D=wv (A.take (gP z.D))*u1∧
 (odd=false→wv z.D+z.p=z.q+z.b1*18446744073709551616^gP z.D∧wv z.F+z.r=z.t+z.b2*18446744073709551616^gP z.D)∧
 (odd=true→wv z.D+z.q=z.p+z.b1*18446744073709551616^gP z.D∧wv z.F+z.t=z.r+z.b2*18446744073709551616^gP z.D)
theorem ASt.step {B:List Nat}{J x y:Nat}{z:ASt}(hz:z.ok A B u0 u1 J v1 odd)(hx:A[gP z.D]?=some x)(hy:B[gP z.D]?=some y){j m o s u v w f g i:Nat}
  (W:18446744073709551616*u+j=x*u0+z.cP)(Y:18446744073709551616*v+m=y*J+z.cQ)(h3:18446744073709551616*cr+o=y*v1+z.cR)(h4:18446744073709551616*w+s=x*u1+z.cT)
  (hl:u<18446744073709551616∧v<18446744073709551616∧cr<18446744073709551616∧w<18446744073709551616∧d<18446744073709551616∧f<18446744073709551616∧g≤1∧i≤1)
  (S:odd=false→d+j+z.b1=m+18446744073709551616*g∧f+o+z.b2=s+18446744073709551616*i)(T:odd=true→d+m+z.b1=j+18446744073709551616*g∧f+s+z.b2=o+18446744073709551616*i):
  ASt.ok A B u0 u1 J v1 odd ⟨z.D++[d],z.F++[f],u,v,cr,w,g,i,z.p+18446744073709551616^gP z.D*j,z.q+18446744073709551616^gP z.D*m,z.r+18446744073709551616^gP z.D*o,z.t+18446744073709551616^gP z.D*s⟩:=by
 obtain ⟨k1,k2,k3,k4,k5,k6,k7,k8,k9,a1,K,L,M,N,O,R⟩:=hz;obtain ⟨l1,l2,l3,l4,l5,l6,l7,l8⟩:=hl;have a0:gP z.D<gP A:=(nN.1 hx).1;unfold ASt.ok;simp only [k0,nP];rw [zQ hx,zQ hy,yO,yO,k2,Ac];refine ⟨zo,rfl,WdD.snoc k3 l5,WdD.snoc k4 l6,l1,l2,l3,l4,l7,l8,kn K W,kn L Y,kn M h3,kn N h4,fun c=>?_,fun c=>?_⟩
 ·obtain ⟨C,G⟩:=O c;obtain ⟨H,I⟩:=S c;exact ⟨vK C H,vK G I⟩
 obtain ⟨C,G⟩:=R c;obtain ⟨H,I⟩:=T c;exact ⟨vK C H,vK G I⟩
theorem ASt.fin {B:List Nat}{j:Nat}{z:ASt}(J:z.ok A B u0 u1 j v1 odd)(I:gP z.D=gP A)(C:gP B=gP A)(y:a<18446744073709551616^gP A)(hb:b<18446744073709551616^gP A)(G:odd=false→j*wv B=u0*wv A+a∧u1*wv A=v1*wv B+b)(H:odd=true→u0*wv A=j*wv B+a∧v1*wv B=u1*wv A+b):
  wv z.D=a∧wv z.F=b:=by
 obtain ⟨S,K,L,M,T,W,Y,k8,k9,R,c,f,g,i,o,p⟩:=J;have w:=wW L;have m:=wW M;rw [K] at m;rw [I] at c f g i o p w m;have N:A.take (gP A)=A:=xd;have O:B.take (gP A)=B:=by rw [←C,xd]
 rw [N] at c i;rw [O] at f g;cases odd with
 |false=>
  obtain ⟨q,s⟩:=o rfl;obtain ⟨u,v⟩:=G rfl;exact ⟨jj c f q (by rw [pe _ j,u,pe u0]) w y,jj g i s (by rw [pe _ u1,v,pe v1]) m hb⟩
 |true=>
  obtain ⟨q,s⟩:=p rfl;obtain ⟨u,v⟩:=H rfl;exact ⟨jj f c q (by rw [pe _ u0,u,pe j]) w y,jj i g s (by rw [pe _ v1,v,pe u1]) m hb⟩
theorem zjh (k:Nat){g i C cB:Nat}{B TA TB:List Nat}{eA:TypeId}{m:Nat}(aa:g<3*n)(ab:i<3*n)(ai:g≠i)(aj:h g=some (.row (u64s (A++TA)) eA))(ak:h i=some (.row (u64s (B++TB)) eB))(b3:gP A≤C)(b4:gP B≤cB)(hB:gP B=gP A)(bq:1≤gP A)(bp:gP A<1000000000)(dA:WdD A)(dB:WdD B)
  (hu:u0<18446744073709551616∧u1<18446744073709551616∧m<18446744073709551616∧v1<18446744073709551616)(ha:a<18446744073709551616^gP A)(hb:b<18446744073709551616^gP A)(hE:odd=false→m*wv B=u0*wv A+a∧u1*wv A=v1*wv B+b)(hO:odd=true→u0*wv A=m*wv B+a∧v1*wv B=u1*wv A+b):
  CF (cal (k+3)) 172 [.agg #[gZ .u64 (u0:Int),gZ .u64 (u1:Int),gZ .u64 (m:Int),gZ .u64 (v1:Int),jx odd],gS (some ⟨g,0,none⟩) (gP A) C,gS (some ⟨i,0,none⟩) (gP B) cB] h n fun _ o n' w=>∃A' B',(∀c∈w,c=g∨c=i)∧n≤n'∧(∀c,c<3*n→c≠g→c≠i→o c=h c)∧o g=some (.row (u64s (A'++TA)) eA)∧o i=some (.row (u64s (B'++TB)) eB)∧WdD A'∧WdD B'∧gP A'=gP A∧gP B'=gP A∧wv A'=a∧wv B'=b:=by
 refine rT (fn:=Tryz.f172) R4 ?_;obtain ⟨al,am,an,ao⟩:=hu;refine zN ?_;refine zc0 (cs:=[gZ .u64 (u0:Int),gZ .u64 (u1:Int),gZ .u64 (m:Int),gZ .u64 (v1:Int),jx odd]) R5 ?_;generalize hh:upd h (3*n+2) _=G;have M:∀c,c<3*n→G c=h c:=fun c hc=>by rw [←hh,zm zo]
 have q1:∃e,G (3*n+2)=some (.row [gZ .u64 (u0:Int),gZ .u64 (u1:Int),gZ .u64 (m:Int),gZ .u64 (v1:Int),jx odd] e):=⟨_,by rw [←hh,zg]⟩;clear hh;refine Zd ?_;refine Zo ?_;refine ye (α:=ASt) (fun z=>[(1,gS (some ⟨g,0,none⟩) (gP A) C),(2,gS (some ⟨i,0,none⟩) (gP B) cB),(3,mo (some ⟨3*n+2,0,none⟩)),(6,gZ .u64 (z.cP:Int)),(7,gZ .u64 (z.cQ:Int)),(8,gZ .u64 (z.cR:Int)),(9,gZ .u64 (z.cT:Int)),(10,gZ .u64 (z.b1:Int)),(11,gZ .u64 (z.b2:Int)),(19,gS (some ⟨g,0,none⟩) (gP A) C),(20,gZ .i64 (gP A:Int)),(21,gZ .i64 (gP z.D:Int))])
  (fun z o n' w=>n'=n+1∧(∀c∈w,c=g∨c=i)∧(w=[]→gP z.D=0)∧(∀c,c<3*n→c≠g→c≠i→o c=h c)∧(∃e,o (3*n+2)=some (.row [gZ .u64 (u0:Int),gZ .u64 (u1:Int),gZ .u64 (m:Int),gZ .u64 (v1:Int),jx odd] e))∧o g=some (.row (u64s ((z.D++A.drop (gP z.D))++TA)) eA)∧o i=some (.row (u64s ((z.F++B.drop (gP z.F))++TB)) eB)∧z.ok A B u0 u1 m v1 odd) (fun z=>gP A-gP z.D)
  ⟨[],[],0,0,0,0,0,0,0,0,0,0⟩ ⟨rfl,rfl,rfl,rfl,rfl,rfl,rfl,rfl,rfl,rfl,rfl,rfl,eT⟩ ⟨rfl,fun x R=>eN R og,fun _=>rfl,fun c hc _ _=>M c hc,q1,(M _ aa).trans aj,(M _ ab).trans ak,gH,rfl,WdD.nil,WdD.nil,by show (0:Nat)<_;decide,by show (0:Nat)<_;decide,by show (0:Nat)<_;decide,by show (0:Nat)<_;decide,by show (0:Nat)≤_;decide,by show (0:Nat)≤_;decide,by simp [wv,dv],by simp [wv,dv],by simp [wv,dv],by simp [wv,dv],fun _=>by simp [wv,dv],fun _=>by simp [wv,dv]⟩ (by show gP A-0<LL;unfold LL;omega) ?_
 clear M q1 aj ak;rintro ⟨D,F,cP,cQ,cR,cT,b1,b2,p,q,r,t'⟩ t u _ w ⟨rfl,hw,ap,a6,⟨e2,H⟩,S,T,hz⟩;have ax:ASt.ok A B u0 u1 m v1 odd ⟨D,F,cP,cQ,cR,cT,b1,b2,p,q,r,t'⟩:=hz;have bm:=hz;obtain ⟨k1,k2,k3,k4,k5,k6,k7,k8,k9,a7,_⟩:=bm;simp only at ap S T k1 k2 k3 k4 k5 k6 k7 k8 k9 a7;refine zN ?_;by_cases hDA:gP D=gP A
 ·refine Zl ?_;obtain ⟨f1,f2⟩:=ASt.fin ax hDA hB ha hb hE hO;rw [hDA,BE,Am] at S;rw [k2,hDA,←hB,BE,Am] at T;refine ⟨rfl,[],rfl,⟨D,F,hw,Al n,a6,S,T,k3,k4,hDA,zo,f1,f2⟩,fun h0=>?_⟩;have:=ap h0;omega
 obtain ⟨x,R⟩:∃x,A[gP D]?=some x:=⟨A[gP D]'zo,kF zo⟩;obtain ⟨y,hy⟩:∃y,B[gP D]?=some y:=⟨B[gP D]'zo,kF zo⟩;have N:=dA.get R;have O:=dB.get hy;have a8:Sl u (n+1) 1 (gS (some ⟨g,0,none⟩) (gP A) C) (u64s (D++A.drop (gP D))):=kI zo S (by rw [k0,sa];omega) b3;have a9:Sl u (n+1) 1 (gS (some ⟨i,0,none⟩) (gP B) cB) (u64s (F++B.drop (gP F))):=kI zo T (by rw [k0,sa];omega) b4;have aq:B[gP F]?=some y:=by rw [k2];exact hy
 refine Zr ?_;refine yE (f:=fun d:Nat=>gZ .u64 (d:Int)) (j:=gP D) R7 a8 R2 (uy R) (fun _=>rfl) R4 fun _=>?_;refine Zm ?_;refine yE (f:=fun d:Nat=>gZ .u64 (d:Int)) (j:=gP F) R7 a9 ⟨rfl,zo⟩ (uy aq) (fun _=>rfl) R4 fun _=>?_;refine Zb ?_;have bh:=qW N al;refine Zc ?_;refine zT R6 H (v:=gZ .u64 (u0:Int)) R2 ?_;refine zM ?_;refine yi _ R5 (uN k u (n+1) N al k5) ?_;rintro _ rfl;obtain ⟨W,J⟩:∃z,z=(x*u0+cP)%18446744073709551616:=⟨_,rfl⟩;obtain ⟨cp,a0⟩:∃z,z=(x*u0+cP)/18446744073709551616:=⟨_,rfl⟩;rw [←J,←a0];have ae:W<18446744073709551616:=by rw [J];exact Az _ zd
 have b6:cp<18446744073709551616:=zo;have ba:18446744073709551616*cp+W=x*u0+cP:=by rw [J,a0];exact AE _ _
 clear J a0 bh;refine Zb ?_;have bi:=qW O an;refine Zc ?_;refine zT R6 H (v:=gZ .u64 (m:Int)) R2 ?_;refine zM ?_;refine yi _ R5 (uN k u (n+1) O an k6) ?_;rintro _ rfl;obtain ⟨Y,K⟩:∃z,z=(y*m+cQ)%18446744073709551616:=⟨_,rfl⟩;obtain ⟨cq,a1⟩:∃z,z=(y*m+cQ)/18446744073709551616:=⟨_,rfl⟩;rw [←K,←a1];have af:Y<18446744073709551616:=by rw [K];exact Az _ zd
 have b7:cq<18446744073709551616:=zo;have bb:18446744073709551616*cq+Y=y*m+cQ:=by rw [K,a1];exact AE _ _
 clear K a1 bi;refine Zb ?_;have bj:=qW O ao;refine Zc ?_;refine zT R6 H (v:=gZ .u64 (v1:Int)) R2 ?_;refine zM ?_;refine yi _ R5 (uN k u (n+1) O ao k7) ?_;rintro _ rfl;obtain ⟨sr,L⟩:∃z,z=(y*v1+cR)%18446744073709551616:=⟨_,rfl⟩;obtain ⟨cr,a2⟩:∃z,z=(y*v1+cR)/18446744073709551616:=⟨_,rfl⟩;rw [←L,←a2];have ag:sr<18446744073709551616:=by rw [L];exact Az _ zd
 have b8:cr<18446744073709551616:=zo;have bc:18446744073709551616*cr+sr=y*v1+cR:=by rw [L,a2];exact AE _ _
 clear L a2 bj;refine Zb ?_;have bk:=qW N am;refine Zc ?_;refine zT R6 H (v:=gZ .u64 (u1:Int)) R2 ?_;refine zM ?_;refine yi _ R5 (uN k u (n+1) N am k8) ?_;rintro _ rfl;obtain ⟨st,s⟩:∃z,z=(x*u1+cT)%18446744073709551616:=⟨_,rfl⟩;obtain ⟨ct,a3⟩:∃z,z=(x*u1+cT)/18446744073709551616:=⟨_,rfl⟩;rw [←s,←a3];have ah:st<18446744073709551616:=by rw [s];exact Az _ zd
 have b9:ct<18446744073709551616:=zo;have bd:18446744073709551616*ct+st=x*u1+cT:=by rw [s,a3];exact AE _ _
 clear s a3 bk;refine Zb ?_;refine zM ?_;refine zT R6 H (v:=jx odd) R2 ?_;simp only [yu,xg,zK,yY];refine yj (α:=Nat×Nat×Nat×Nat) (fun z=>[(1,gS (some ⟨g,0,none⟩) (gP A) C),(2,gS (some ⟨i,0,none⟩) (gP B) cB),(3,mo (some ⟨3*n+2,0,none⟩)),(6,gZ .u64 (cp:Int)),(7,gZ .u64 (cq:Int)),(8,gZ .u64 (cr:Int)),(9,gZ .u64 (ct:Int)),(10,gZ .u64 (b1:Int)),(11,gZ .u64 (b2:Int)),(12,gZ .u64 (z.1:Int)),(13,gZ .u64 (z.2.1:Int)),(14,gZ .u64 (z.2.2.1:Int)),(15,gZ .u64 (z.2.2.2:Int)),(16,gZ .i64 (gP D:Int)),(19,gS (some ⟨g,0,none⟩) (gP A) C),(20,gZ .i64 (gP A:Int)),(21,gZ .i64 (gP D:Int))])
  (fun z o n' w'=>u=o∧n+1=n'∧w=w'∧z.1<18446744073709551616∧z.2.1<18446744073709551616∧z.2.2.1<18446744073709551616∧z.2.2.2<18446744073709551616∧(odd=false→z.1=W∧z.2.1=Y∧z.2.2.1=sr∧z.2.2.2=st)∧(odd=true→z.1=Y∧z.2.1=W∧z.2.2.1=st∧z.2.2.2=sr)) ?_ ?_
 ·cases odd with
  |false=>
   rw [za rfl];refine zN ?_;exact zA (W,Y,sr,st) ⟨rfl,rfl,rfl,rfl,rfl,rfl,rfl,rfl,rfl,rfl,rfl,rfl,rfl,rfl,rfl,rfl,rfl,eT⟩ ⟨rfl,rfl,rfl,ae,af,ag,ah,fun _=>⟨rfl,rfl,rfl,rfl⟩,fun h=>by cases h⟩
  |true=>
   rw [ze rfl];refine Zd ?_;exact zA (Y,W,st,sr) ⟨rfl,rfl,rfl,rfl,rfl,rfl,rfl,rfl,rfl,rfl,rfl,rfl,rfl,rfl,rfl,rfl,rfl,eT⟩ ⟨rfl,rfl,rfl,af,ae,ah,ag,fun h=>(by cases h),fun _=>⟨rfl,rfl,rfl,rfl⟩⟩
 rintro ⟨z1,z2,z3,z4⟩ t3 _ _ _ ⟨rfl,rfl,rfl,ar,au,av,aw,gE,gO⟩;simp only at ar au av aw gE gO;refine zN ?_;have bf:(D++A.drop (gP D)).length=gP A:=by rw [k0,sa];omega
 have bg:(F++B.drop (gP F)).length=gP B:=by rw [k0,sa];omega
 repeat refine zR ?_
 refine rn (x:=z2) (y:=z1) (c:=b1) R5 k9 ?_;have a4:=vL au ar k9;obtain ⟨d,hd⟩:∃d,d=(z2+18446744073709551616-z1-b1)%18446744073709551616:=⟨_,rfl⟩;obtain ⟨e1,ac⟩:∃e1,e1=(if z1+b1≤z2 then 0 else 1):=⟨_,rfl⟩;rw [←hd,←ac] at a4 ⊢;have b5:d<18446744073709551616:=by rw [hd];exact Az _ zd
 have ay:e1≤1:=by rw [ac];split<;>omega
 repeat refine zR ?_
 refine yG (j:=gP D) (off:=0) (v:=gZ .u64 (d:Int)) R8 rfl ⟨zo,by rw [zL,k0,bf];omega⟩ S aa (fun _=>rfl) R3 (fun _=>rfl) rfl fun _=>?_;rw [sb,yk,cE _ R];generalize hh:upd u g _=h3;have bn:h3 g=some (.row (u64s (((D++[d])++A.drop (gP (D++[d])))++TA)) eA):=by rw [←hh,zg]
 have bo:h3 i=some (.row (u64s ((F++B.drop (gP F))++TB)) eB):=by rw [←hh,zm (Ne.symm ai)];exact T
 have q3:=(show h3 (3*n+2)=u (3*n+2) from by rw [←hh,zm zo]).trans H;have bl:∀c,c<3*n→c≠g→c≠i→h3 c=h c:=fun c hc G I=>by rw [←hh,zm G];exact a6 c hc G I
 clear hh H S T a6 a8 a9;refine Zm ?_;refine rn (x:=z4) (y:=z3) (c:=b2) R5 a7 ?_;have a5:=vL aw av a7;obtain ⟨f,hf⟩:∃d,d=(z4+18446744073709551616-z3-b2)%18446744073709551616:=⟨_,rfl⟩;obtain ⟨b0,ad⟩:∃e1,e1=(if z3+b2≤z4 then 0 else 1):=⟨_,rfl⟩;rw [←hf,←ad] at a5 ⊢;have be:f<18446744073709551616:=by rw [hf];exact Az _ zd
 have az:b0≤1:=by rw [ad];split<;>omega
 repeat refine zR ?_
 refine yG (j:=gP F) (off:=0) (v:=gZ .u64 (f:Int)) R8 zo ⟨zo,by rw [zL,k0,bg];omega⟩ bo ab (fun _=>rfl) R3 (fun _=>rfl) rfl fun _=>?_;rw [sb,yk,cE _ aq];refine Zo ?_;have s:=ASt.step ax R hy ba bb bc bd ⟨b6,b7,b8,b9,b5,be,ay,az⟩ (fun h=>by
  obtain ⟨i1,i2,i3,i4⟩:=gE h;rw [←i1,←i2,←i3,←i4];exact ⟨a4,a5⟩) (fun h=>by
  obtain ⟨i1,i2,i3,i4⟩:=gO h;rw [←i1,←i2,←i3,←i4];exact ⟨a4,a5⟩)
 refine goOn _ ?_ ⟨rfl,rfl,rfl,rfl,rfl,rfl,rfl,rfl,rfl,rfl,rfl,?_,eT⟩ ⟨rfl,?_,?_,?_,⟨e2,(zm zo).trans q3⟩,(zm ai).trans bn,zg _ _ _,s⟩
 ·show (gP A)-gP (D++[d])<gP A-gP D;rw [k0,nP];omega
 ·show gZ .i64 _=gZ .i64 _;rw [k0];rfl
 ·intro c hc;rcases Ad.1 hc with rfl|hc
  ·exact .inr rfl
  rcases Ad.1 hc with rfl|hc
  ·exact .inl rfl
  exact hw c hc
 ·intro h;cases h
 intro c hc G I;exact (zm I).trans (bl c hc G I)
end
section
variable {a:Nat}
section
variable {sT e:TypeId}{z x:Value}
theorem zgi {cap:Nat}(y:E.und sT=some (.slice e))(hi:E.inf e=some (1,bytes,z))(D:gP (zn z)=1)(p:1≤bytes)(hx:argS h 1 x 1 [v])(hb:(len+1)*bytes≤1099511627776)(hc:len+1≤cap)(u:h b=some (.row c e'))(q:len<gP c)(s:ones [v]=true):
  yW E h n sT (gS (some ⟨b,0,none⟩) len cap) x=some (.val (gS (some ⟨b,0,none⟩) (len+1) cap) (upd h b (some (.row (c.set len v) e'))) n [b]):=by
 obtain ⟨g,f⟩:=hx;have c1:Ag ((len+1)*bytes) 1099511627776=true:=oo hb;have c2:AD (gP (zn z)) 1=true:=by rw [D];exact Nat.beq_refl _
 have i:Ag 1 1=true:=rfl;have j:Ag 1 bytes=true:=oo p;have l:Ag (len+1) cap=true:=oo hc;have m:vA h ((⟨b,0,none⟩:Addr).add (len*1)) [v]=some (upd h b (some (.row (c.set len v) e'))):=by
  rw [wO,sb,AH,uZ u (by rw [nP];omega) s,splice_one c len v q]
 simp only [yW,y,hi,g,f,c1,c2,i,j,l,Bool.and_self,uB,m]
end
structure GRow (h:HF)(lo n b:Nat)(A T:List Nat):Prop where
 g:gro b=true
 lo:3*lo≤b
 hi:b<3*n
 r:h b=some (.row (u64s (A++T)) 196)
theorem GRow.sl {h:HF}{n:Nat}(g:GRow h lo n b A T):Sl h n 1 (gS (some ⟨b,0,none⟩) (gP A) (gP A+gP T)) (u64s A):=kI g.hi g.r rfl zo
theorem GRow.ext {h:HF}{n:Nat}(g:GRow h lo n b A T)(e:Ext n h h')(f:n≤n'):GRow h' lo n' b A T:=⟨g.g,g.lo,by have:=g.hi;omega,by rw [e b g.hi];exact g.r⟩
theorem GRow.cut {h:HF}{n:Nat}(g:GRow h lo n b A T):GRow h lo n b (yf A) (A.drop (gP (yf A))++T):=⟨g.g,g.lo,g.hi,by
 rw [←Ak];have:yf A++A.drop (gP (yf A))=A:=by
  conv=>lhs;rw [←rV A]
  conv=>rhs;rw [←Bm (gP (yf A)) A]
  rw [rV]
 rw [this];exact g.r⟩
theorem GRow.cap:gP (yf A)+(A.drop (gP (yf A))++T).length=gP A+gP T:=by
 have:=xU A;rw [k0,sa];omega
section
variable {X:CtxF}{r:List Oper}{t:TF}{o:Oper}{d:Tmp}
theorem zl8 {sT:TypeId}{s x:Operand}{bytes:Nat}{z:Value}{d0:Nat}(F:zh ops t o=true)(hd:o.dst=some d)(hn:zv X.nt (some d)=true)(q:o.op=.call {callee:=.builtin .append,args:=#[s,x],argTypes:=#[sT,xT]})(j:(match X.E.und xT with|some (.int _)=>false|none=>false|_=>true)=true)
  (D:X.E.und sT=some (.slice 196))(hi:X.E.inf 196=some (1,bytes,z))(G:gP (zn z)=1)(m:1≤bytes)(i:evF t s=gS (some ⟨b,0,none⟩) (gP A) (gP A+gP T))(f:GRow h lo n b A T)(hx:argS h 1 (evF t x) 1 (u64s [d0]))(hb:(gP A+1)*bytes≤1099511627776)(J:X.n0≤lo∧lo≤n)
  (k:∀b' T' h' n',n≤n'→GRow h' lo n' b' (A++[d0]) T'→(∀c,c<3*n→c≠b→h' c=h c)→(b'=b∨3*n≤b')→EO X ops r ⟨upd t d (gS (some ⟨b',0,none⟩) (gP A+1) (gP A+1+gP T')),h',n',w⟩ Q):EO X ops (o::r) ⟨t,h,n,w⟩ Q:=by
 have I:=f.lo;cases T with
 |cons x T=>
  rw [Ao] at i;refine yM (v:=gS (some ⟨b,0,none⟩) (gP A+1) (gP A+(gP T+1))) ⟨F,hd,hn,q,j⟩ (by rw [i];exact zgi D hi G m hx hb zo f.r (by rw [zL,k0,Ao];omega) rfl) ?_;rw [zV fun y l=>by rw [qq.1 l];omega];have:=k b T (upd h b (some (.row ((u64s (A++x::T)).set (gP A) (gZ .u64 (d0:Int))) 196))) n eU ⟨f.g,f.lo,f.hi,by
   rw [zg,yk,A4 _ _ eU,AO,List.set_cons_zero,Ak];rfl⟩ (fun c _ hc=>zm hc) (.inl rfl)
  rw [show gP A+(gP T+1)=gP A+1+gP T from zo];exact this
 |nil=>
  rw [C3,AJ] at i;have u:=f.r;rw [Am] at u;refine yM (v:=gS (some ⟨3*n+1,0,none⟩) (gP A+1) (gP A+1)) ⟨F,hd,hn,q,j⟩ (by rw [i];exact ue D hi G eU m hx eU hb f.g u (by rw [zL,AH]) (yZ (xW A) rfl) rfl) ?_;rw [zV fun y l=>by rw [qq.1 l];omega];have H:=f.hi;exact k (3*n+1) [] _ (n+1) (Al n) ⟨uD n,zo,zo,by rw [zg,Am,vg]⟩ (fun c hc p=>by rw [zm zo,zm p]) (.inr zo)
end
theorem zqb {A f:Nat}(g:2*b≤A)(i:a≤B)(h:A*B<2^f)(l:0<A*B):∃f',f=f'+1∧a*b<2^f':=by
 cases f with
 |zero=>rw [BL] at h;omega
 |succ f=>
  refine ⟨f,rfl,?_⟩;have j:a*(2*b)≤B*A:=Ar i g;rw [Be,pe B A] at j;rw [Ac] at h;omega
structure GSt where
 A:List Nat
 TA:List Nat
 bA:Nat
 B:List Nat
 aB:Option Addr
 cB:Nat
 f:Nat
structure GOk (h:HF)(lo n g:Nat)(z:GSt):Prop where
 rA:GRow h lo n z.bA z.A z.TA
 sB:Sl h n 1 (gS z.aB (gP z.B) z.cB) (u64s z.B)
 rB:1≤gP z.B→∃bB TB,z.aB=some ⟨bB,0,none⟩∧z.cB=gP z.B+gP TB∧GRow h lo n bB z.B TB∧z.bA≠bB
 nA:NW z.A
 nB:NW z.B
 le:wv z.B≤wv z.A
 pos:0<wv z.A
 lA:gP z.A<1000000
 lB:gP z.B<80
 gcd:rp (wv z.A) (wv z.B)=g
 fuel:wv z.A*wv z.B<2^z.f
theorem zju (h:NW A)(g:1≤gP A):0<wv A:=by
 rcases BN (wv A) with f|f
 ·have:A=[]:=h.inj NW.nil (by rw [f];rfl);rw [this] at g;exact eN g zd
 exact f
theorem uO {B:List Nat}(g:NW A)(i:NW B)(h:wv B≤wv A):gP B≤gP A:=by
 rcases Bi (gP A) (gP B) with f|f
 ·have:=g.len_lt i f;omega
 exact f
theorem znk (h:gro b=true):b%3=1:=Ay h
theorem eD (k:Nat){h:HF}(hG:GK.G h){n:Nat}(hn:20≤n)(hA:Sl h n 1 (gS a1 l1 c1) (u64s A))(hC:Sl h n 1 (gS a2 l2 c2) (u64s C))(u:NW A)(nC:NW C)(hb:gP A<80∧gP C<80):
  CF (cal (k+7)) 135 [gS a1 l1 c1,gS a2 l2 c2] h n fun v h' n' w=>∃L,ResW n h v h' n' w L∧wv L=rp (wv A) (wv C)∧(xC n v∨v=gS a1 l1 c1∨v=gS a2 l2 c2):=by
 refine zw (fn:=Tryz.f135) R4 ?_;refine Zd ?_;refine Zc ?_;refine yi _ R5 (uF (k+3) hA hC u nC zo) ?_;rintro _ rfl;refine lW R6 ?_;simp only [yu,xg,zK,yY];refine yj (α:=(Option Addr×Nat×Nat×List Nat)×(Option Addr×Nat×Nat×List Nat)) (fun z=>[(0,gS z.1.1 z.1.2.1 z.1.2.2.1),(1,gS z.2.1 z.2.2.1 z.2.2.2.1)]) (fun z h' n' w=>h=h'∧n=n'∧w=[]∧Sl h n 1 (gS z.1.1 z.1.2.1 z.1.2.2.1) (u64s z.1.2.2.2)∧Sl h n 1 (gS z.2.1 z.2.2.1 z.2.2.2.1) (u64s z.2.2.2.2)∧NW z.1.2.2.2∧NW z.2.2.2.2∧gP z.1.2.2.2<80∧gP z.2.2.2.2<80∧wv z.2.2.2.2≤wv z.1.2.2.2∧rp (wv z.1.2.2.2) (wv z.2.2.2.2)=rp (wv A) (wv C)∧(gS z.1.1 z.1.2.1 z.1.2.2.1=gS a1 l1 c1∨gS z.1.1 z.1.2.1 z.1.2.2.1=gS a2 l2 c2)) ?_ ?_
 ·by_cases hlt:wv A<wv C
  ·rw [ze (by show jx _=_;rw [sM hlt];rfl)];refine Zd ?_;exact zA ((a2,l2,c2,C),(a1,l1,c1,A)) ⟨rfl,rfl,eT⟩ ⟨rfl,rfl,rfl,hC,hA,nC,u,hb.2,hb.1,Bh hlt,Cp _ _,.inr rfl⟩
  rw [za (by
   show jx _=_;rcases Bi (wv C) (wv A) with h|h
   ·rw [sO h];rfl
   ·rw [show wv A=wv C from zo,jd];rfl)]
  refine zN ?_;exact zA ((a1,l1,c1,A),(a2,l2,c2,C)) ⟨rfl,rfl,eT⟩ ⟨rfl,rfl,rfl,hA,hC,u,nC,hb.1,hb.2,by show wv C≤wv A;omega,rfl,.inl rfl⟩
 rintro ⟨⟨a,l,c,X⟩,⟨a',l',c',Y⟩⟩ t _ _ _ ⟨rfl,rfl,rfl,hX,hY,nX,nY,bs,aw,a7,H,hv⟩;simp only at hX hY nX nY bs aw a7 H hv;generalize hgg:rp (wv A) (wv C)=g at H ⊢;clear hgg hb hA hC u nC;have eX:=hX.lenW;have eY:=hY.lenW;subst eX eY;refine zN ?_;by_cases hY0:Y=[]
 ·subst hY0;refine Zq ?_;exact retH _ ⟨rfl,(zi rfl),rfl⟩ ⟨X,⟨rfl,eU,Ext.refl _ _,hX,nX⟩,by rw [←H,show wv []=0 from rfl,CS],.inr hv⟩
 have bt:1≤gP Y:=by
  rcases BN (gP Y) with h0|h0
  ·exact eN (vT.1 h0) hY0
  exact h0
 have ag:1≤gP X:=Aa bt (uO nX nY a7);have br:X≠[]:=fun e=>by rw [e] at ag;exact eN ag zd
 refine Zz ?_;refine zF _ R5 (ub (k+5) hX zo) ?_;rintro v5 h2 i _ ⟨rfl,ak,W,_,a8⟩;obtain ⟨b5,rfl,bf,bg,bh,ap,_⟩:=(a8 br).inv2 zo;refine zM ?_;refine zF _ R5 (ub (k+5) (hY.ext W ak) zo) ?_;rintro v6 h3 n3 _ ⟨rfl,cu,D,_,az⟩;obtain ⟨b6,rfl,bi,ck,bj,au,_⟩:=(az hY0).inv2 zo;have an:Ext n h h3:=W.trans D ak;have r5:GRow h3 n n3 b5 X []:=⟨bf,bg,zo,by rw [Am,D _ bh];exact ap⟩;have r6:GRow h3 n n3 b6 Y []:=⟨bi,zo,bj,by rw [Am];exact au⟩;refine Zb ?_;refine ye (α:=GSt) (fun z=>[(5,gS (some ⟨z.bA,0,none⟩) (gP z.A) (gP z.A+gP z.TA)),(6,gS z.aB (gP z.B) z.cB)]) (fun z h' n' w=>n≤n'∧w=[]∧Ext n h h'∧GOk h' n n' g z) (fun z=>z.f)
  ⟨X,[],b5,Y,some ⟨b6,0,none⟩,gP Y,64*(gP X+gP Y)⟩ ⟨rfl,rfl,eT⟩ ⟨zo,rfl,an,r5,r6.sl,fun _=>⟨b6,[],rfl,rfl,r6,by show b5≠b6;omega⟩,nX,nY,a7,zju nX ag,by show gP X<_;omega,aw,H,?_⟩ (by show 64*(gP X+gP Y)<LL;unfold LL;omega) ?_
 ·show wv X*wv Y<2^(64*(gP X+gP Y));rw [Hi,show (2:Nat)^64=18446744073709551616 from rfl,Bf];exact Dh (wW nX.1) (wW nY.1)
 clear a8 az r5 r6 an W D ap au H hv a7 nX nY hX hY;rintro ⟨A,TA,F,B,aB,cB,f⟩ t h1 n1 _ ⟨aj,rfl,ac,c7⟩;obtain ⟨rA,sB,rB,u,O,aa,R,lA,lB,H,hf⟩:=c7;simp only at rA sB rB u O aa R lA lB H hf aj;refine zN ?_;by_cases hB2:2≤gP B;case neg=>
  refine Zl ?_;cases B with
  |nil=>
   refine Zq ?_;exact retH _ ⟨rfl,(zi rfl),rfl⟩ ⟨A,⟨rfl,aj,ac,rA.sl,u⟩,by rw [←H,show wv []=0 from rfl,CS],.inl rA.lo⟩
  |cons y B=>
   have bo:B=[]:=by
    rw [Ao] at hB2;exact vT.1 zo
   subst bo;obtain ⟨bB,TB,rfl,rfl,gB,b0⟩:=rB gN;have hy:y<18446744073709551616:=O.1 y gN;have cy:y≠0:=NW.last (l:=[]) O;rw [pP] at H;have b2:=gB.r;have bp:GK.G h1:=rR hG ac hn;rw [show [y].length=1 from rfl];refine Zl ?_;refine zl [0,1,3,0,0,16,48,120,255,511,1023] rfl ?_;repeat refine zE ?_
   refine yd R6 (zX rfl b2 (v:=gZ .u64 (y:Int)) R2) R2 ?_;repeat refine zE ?_
   refine yd R6 (zX rfl b2 (v:=gZ .u64 (y:Int)) R2) R2 ?_;refine ziw _ R7 (zaz (k+2) (l:=A) (d:=y) zo u.1 ⟨zo,hy⟩ rA.sl) ?_;rintro _ rfl;refine ziw _ R7 (zbi (k+4) bp n1 hy (EZ (Az _ zo) hy)) ?_;rintro _ rfl;refine wa _ R7 (sH (k+5) h1 n1 (Aj (ER _ zo) hy)) ?_;rintro v9 h9 n9 _ ⟨L9,⟨rfl,c6,ce,b3,bq⟩,cb,cn,c0⟩;obtain ⟨a9,l9,c9,rfl,_⟩:=b3.len;refine ⟨sj,c6,?_⟩;repeat refine zE ?_
   refine zN ?_;exact retH _ ⟨rfl,(zi rfl),rfl⟩ ⟨L9,⟨rfl,by show n≤n9;omega,ac.trans ce zo,b3,bq⟩,by rw [cb,zij,H],.inl (c0.mono zo)⟩
 obtain ⟨bB,TB,rfl,rfl,gB,b0⟩:=rB zo;clear rB sB;have K:=zju O (show 1≤gP B by omega);have bn:=uO u O aa;refine Zx ?_;refine zF _ R5 (fC (k+3) rA.sl gB.sl u O zo aa zo K) ?_;rintro _ h2 i _ ⟨rfl,ak,W,x,y,u0,u1,u2,v0,v1,v2,r0,r1,a3,rfl,hL,d0,d1,d2,d3⟩;refine xV R5 ?_;refine yc [gZ .u64 (u0:Int),gZ .u64 (u1:Int),gZ .u64 (v0:Int),gZ .u64 (v1:Int),jx a3] R8 (zg _ _ _) rfl (by show 3*n≤3*i+2;omega) ?_;rw [uk];generalize hh:upd h2 (3*i+2) _=h3;have q3:∃e,h3 (3*i+2)=some (.row [gZ .u64 (u0:Int),gZ .u64 (u1:Int),gZ .u64 (v0:Int),gZ .u64 (v1:Int),jx a3] e):=⟨_,by rw [←hh,zg]⟩;obtain ⟨e3,q3⟩:=q3;have a6:Ext n1 h1 h3:=fun b hb=>by rw [←hh,zm zo,W b hb]
 clear hh;have D:Ext n h h3:=ac.trans a6 aj;have ae:=rA.ext a6 (show n1≤i+1 by omega);have U:=gB.ext a6 (show n1≤i+1 by omega);refine Ze ?_;refine zT R6 q3 (v:=gZ .u64 (v0:Int)) R2 ?_;by_cases hv0:v0=0
 ·refine Zx ?_;refine zF _ R5 (ng k ae.sl U.sl u O zo K) ?_;rintro _ h4 n4 _ ⟨vq,vr,Lq,J,rfl,rfl,ab,P,ca,cw,am,b1,hq,hr,_,_⟩;obtain ⟨aq,lq,cq,rfl,_⟩:=ca.len;obtain ⟨ar,lr,cr,rfl,_⟩:=am.len;have c3:=Az (wv A) K;have ct:gP J≤gP B:=uO O b1 zo;have be:=am.lenW;subst be;refine Zu ?_;refine zF _ R5 (ub (k+5) am zo) ?_;rintro v5 h5 n5 _ ⟨rfl,cv,cd,al,a8⟩;obtain ⟨a5,l5,c5,rfl,_⟩:=al.len;have bd:=al.lenW;subst bd;refine Zb ?_;have ao:Ext (i+1) h3 h5:=P.trans cd ab;obtain ⟨f',rfl,ah⟩:=zqb (a:=wv B) (b:=wv A%wv B) (by
   have h1:=AE (wv A) (wv B);have h2:wv B*1≤wv B*(wv A/wv B):=s9 _ ((Gx K).2 aa);omega) eU hf (CP R K)
  refine goOn ⟨B,TB,bB,J,a5,c5,f'⟩ (B4 _) ⟨rfl,rfl,eT⟩ ⟨by show n≤n5;omega,rfl,D.trans ao (show n≤i+1 by omega),U.ext ao (show i+1≤n5 by omega),al,fun hl=>?_,O,b1,by show wv J≤wv B;rw [hr];exact Bh c3,K,by show gP B<_;omega,by show gP J<_;omega,?_,by show wv B*wv J<_;rw [hr];exact ah⟩
  ·obtain ⟨b7,e7,bk,cl,bl,bm,_⟩:=(a8 (fun e=>by rw [show (GSt.mk B TB bB J a5 c5 f').B=J from rfl,e] at hl;exact eN hl (FZ 0))).inv2 (show gP J≠0 from fun e=>by rw [show (GSt.mk B TB bB J a5 c5 f').B=J from rfl,e] at hl;exact eN hl (FZ 0));injection e7 with e1 e2 e3
   subst e1 e3;have:=gB.hi;exact ⟨b7,[],rfl,rfl,⟨bk,zo,bl,by rw [Am];exact bm⟩,by show bB≠b7;omega⟩
  show rp (wv B) (wv J)=g;rw [hr,←H,Cp,←Nat.gcd_rec,Cp]
 obtain ⟨a,b,hE,hO,ay,ai,ci,ax⟩:=hL.done hv0;refine Zg ?_;simp only [yu,xg,zK,yY];refine yj (α:=Nat×List Nat×List Nat×Nat) (fun z=>[(5,gS (some ⟨F,0,none⟩) (gP A) (gP A+gP TA)),(6,gS (some ⟨z.1,0,none⟩) (gP z.2.1) (gP z.2.1+gP z.2.2.1)),(7,mo (some ⟨3*i+2,0,none⟩))])
  (fun z h' n' w=>n'=z.2.2.2∧i+1≤n'∧w=[]∧Ext n h h'∧GRow h' n n' F A TA∧GRow h' n n' z.1 z.2.1 z.2.2.1∧F≠z.1∧h' (3*i+2)=some (.row [gZ .u64 (u0:Int),gZ .u64 (u1:Int),gZ .u64 (v0:Int),gZ .u64 (v1:Int),jx a3] e3)∧gP z.2.1=gP A∧WdD z.2.1∧wv z.2.1=wv B) ?_ ?_
 ·refine zN ?_;refine ye (α:=Nat×List Nat×List Nat) (fun z=>[(5,gS (some ⟨F,0,none⟩) (gP A) (gP A+gP TA)),(6,gS (some ⟨z.1,0,none⟩) (gP z.2.1) (gP z.2.1+gP z.2.2)),(7,mo (some ⟨3*i+2,0,none⟩))])
   (fun z h' n' w=>i+1≤n'∧w=[]∧Ext n h h'∧GRow h' n n' F A TA∧GRow h' n n' z.1 z.2.1 z.2.2∧F≠z.1∧h' (3*i+2)=some (.row [gZ .u64 (u0:Int),gZ .u64 (u1:Int),gZ .u64 (v0:Int),gZ .u64 (v1:Int),jx a3] e3)∧gP z.2.1≤gP A∧WdD z.2.1∧wv z.2.1=wv B) (fun z=>gP A-gP z.2.1)
   (bB,B,TB) ⟨rfl,rfl,rfl,eT⟩ ⟨eU,rfl,D,ae,U,b0,q3,bn,O.1,rfl⟩ (by show gP A-gP B<LL;unfold LL;omega) ?_
  clear ae U q3 D;rintro ⟨bZ,Z,T⟩ t h4 n4 _ ⟨ab,rfl,P,j,s,p,q4,V,dZ,N⟩;simp only at s p V dZ N;refine zN ?_;by_cases hZA:gP Z<gP A
  ·refine Zh ?_;refine Ze ?_;refine pZ (cs:=u64s [0]) R5 ?_;generalize hh:upd h4 (3*n4+2) _=h5;have S:Ext n4 h4 h5:=by rw [←hh];exact Ext.upd zo
   have q5:∃e,h5 (3*n4+2)=some (.row (u64s [0]) e):=⟨_,by rw [←hh,zg]⟩;obtain ⟨e5,q5⟩:=q5;clear hh;refine zl8 (lo:=n) (d0:=0) rfl rfl rfl rfl rfl rfl rfl rfl zd rfl (s.ext S (Al n4)) (yp q5 R2) zo ⟨eU,zo⟩ ?_;intro b' T' h6 n6 c4 g6 a0 bw;refine Zb ?_;have cm:=znk s.g;have ba:=s.hi;have a4:=s.lo;have b9:=j.hi;refine goOn (b',Z++[0],T') (by show gP A-gP (Z++[0])<gP A-gP Z;rw [k0,nP];omega) ⟨rfl,by show gS _ _ _=gS _ _ _;rw [k0];rfl,rfl,eT⟩ ⟨by show i+1≤n6;omega,rfl,fun b hb=>?_,⟨j.g,j.lo,by show F<3*n6;omega,?_⟩,g6,by show F≠b';rcases bw with e|e<;>omega,?_,by show gP (Z++[0])≤_;rw [k0,nP];omega,WdD.snoc dZ zd,by show wv (Z++[0])=_;rw [yO,Bp,AJ,N]⟩
   ·exact (a0 b zo zo).trans ((S b zo).trans (P b hb))
   ·exact (a0 F zo p).trans ((S F zo).trans j.r)
   exact (a0 (3*i+2) zo zo).trans ((S (3*i+2) zo).trans q4)
  refine Zl ?_;exact zA (bZ,Z,T,n4) ⟨rfl,rfl,rfl,eT⟩ ⟨rfl,ab,rfl,P,j,s,p,q4,by show gP Z=_;omega,dZ,N⟩
 clear ae U q3 D;rintro ⟨bZ,Z,T,n4⟩ t h4 _ _ ⟨rfl,ab,rfl,P,j,s,p,q4,V,dZ,N⟩;simp only at s p V dZ N;refine zN ?_;refine z7 (v:=.agg #[gZ .u64 (u0:Int),gZ .u64 (u1:Int),gZ .u64 (v0:Int),gZ .u64 (v1:Int),jx a3]) R5 (yw R2 q4 rfl zb rfl) ?_;refine Zc ?_;have cj:=wW u.1;refine zF _ R5 (zjh (k+3) (a:=a) (b:=b) j.hi s.hi p j.r s.r zo zo V zo zo u.1 dZ ⟨zo,zo,zo,zo⟩ zo zo (by rw [N];exact hE) (by rw [N];exact hO)) ?_;rintro _ h6 n6 w6 ⟨q,I,cc,c4,a0,qA,qB,bb,bc,b4,cf,cg,ch⟩;have af:=j.lo;have a4:=s.lo;have b9:=j.hi;have ba:=s.hi;try simp only [tH]
 rw [zV (w:=[]) fun y hy=>by
  show 3*n≤y;rcases cc y hy with rfl|rfl
  ·exact af
  ·exact a4]
 have b8:GRow h6 n n6 F q TA:=⟨j.g,af,zo,qA⟩;have av:GRow h6 n n6 bZ I T:=⟨s.g,a4,zo,qB⟩;refine Zb ?_;refine zM ?_;have tA:=xi (k+5) (l:=q) zo (fun ad e=>by injection e with e;rw [←e]) b8.sl;rw [b4] at tA;refine zF _ R5 tA ?_;rintro _ h6 n6 _ ⟨rfl,rfl,rfl,rfl,cx⟩;refine zM ?_;have tB:=xi (k+5) (l:=I) zo (fun ad e=>by injection e with e;rw [←e]) av.sl;rw [cf,←V] at tB;refine zF _ R5 tB ?_;rintro _ h6 n6 _ ⟨rfl,rfl,rfl,rfl,c8⟩;refine Zb ?_;have m:=xD bb;have M:=xD bc;rw [cg] at m;rw [ch] at M;have bu:0<a:=by
  rcases BN a with h0|h0
  ·have bv:b=0:=zo;rw [h0,bv,CS] at ai;have:=CH (wv B) R;omega
  exact h0
 obtain ⟨f',rfl,ah⟩:=zqb (a:=a) (b:=b) zo ax hf (CP R K);have bx:=GRow.cap (A:=q) (T:=TA);have bz:=GRow.cap (A:=I) (T:=T);have co:gP (yf q)≤gP B:=uO O m.1 (by rw [m.2];exact ax);have cp:gP (yf I)≤gP (yf q):=uO m.1 M.1 (by rw [m.2,M.2];exact ay);exact goOn ⟨yf q,q.drop (gP (yf q))++TA,F,yf I,some ⟨bZ,0,none⟩,gP Z+gP T,f'⟩ (B4 _) ⟨by show gS _ _ _=gS _ _ _;rw [bx,b4],rfl,eT⟩ ⟨by show n≤n6;omega,rfl,fun c hc=>(a0 c zo zo zo).trans (P c hc),b8.cut,c8,fun _=>⟨bZ,I.drop (gP (yf I))++T,rfl,by show gP Z+gP T=_;rw [bz];omega,av.cut,p⟩,m.1,M.1,by show wv (yf I)≤wv (yf q);rw [m.2,M.2];exact ay,by show 0<wv (yf q);rw [m.2];exact bu,by show gP (yf q)<_;omega,by show gP (yf I)<_;omega,by show rp (wv (yf q)) (wv (yf I))=g;rw [m.2,M.2,ai,H],by show wv (yf q)*wv (yf I)<_;rw [m.2,M.2];exact ah⟩
end
theorem rx (k:Nat)(h:HF)(n:Nat)(b:Bool)(a:Option Addr)(l c:Nat):CF (cal (k+1)) 151 [jx b,gS a l c] h n fun v d e w=>v=.agg #[jx (b&&decide (0<l)),gS a l c]∧e=n+1∧w=[]∧Ext n h d:=by
 refine zw (fn:=Tryz.f151) R4 ?_;refine zN ?_;refine xV R5 ?_;refine zN ?_;cases b
 ·repeat refine zR ?_
  refine yc [jx false,gS a l c] R8 (zg _ _ _) rfl (by show 3*n≤_;omega) ?_;refine zN ?_;exact uq R5 (zg _ _ _) rfl ⟨rfl,rfl,rfl,by rw [uk];exact Ext.upd zo⟩
 by_cases hl:0<l
 ·repeat refine zR ?_
  refine yc [jx true,gS a l c] R8 (zg _ _ _) rfl (by show 3*n≤_;omega) ?_;refine zN ?_;exact uq R5 (zg _ _ _) rfl ⟨by rw [eH hl];rfl,rfl,rfl,by rw [uk];exact Ext.upd zo⟩
 repeat refine zR ?_
 refine yc [jx false,gS a l c] R8 (zg _ _ _) rfl (by show 3*n≤_;omega) ?_;refine zN ?_;exact uq R5 (zg _ _ _) rfl ⟨by rw [cA hl];rfl,rfl,rfl,by rw [uk];exact Ext.upd zo⟩
theorem NW.zero_iff {L:List Nat}(h:NW L):wv L=0↔L=[]:=⟨fun e=>h.inj NW.nil (by rw [e];rfl),fun e=>by rw [e];rfl⟩
section
variable {l:Nat}{e:TypeId}{z:Value}
def Gw (n:Nat)(h:HF)(P:Value→HF→Nat→Prop):Value→HF→Nat→List Nat→Prop:=fun v h' n' w=>w=[]∧n≤n'∧Ext n h h'∧P v h' n'
def CX (C:CalF)(f:FuncId)(args:List Value)(h:HF)(n:Nat)(P:Value→HF→Nat→Prop):Prop:=CF C f args h n (Gw n h P)
theorem VF.cx {C:CalF}{h:HF}{n:Nat}{P:Value→Prop}(c:VF C f args h n P):CX C f args h n fun v _ _=>P v:=by
 refine wc c ?_;rintro v _ _ _ ⟨rfl,rfl,rfl,a⟩;exact ⟨rfl,eU,Ext.refl _ _,a⟩
theorem CX.mono {C:CalF}{h:HF}{n:Nat}{P a:Value→HF→Nat→Prop}(c:CX C f args h n P)(j:∀v h' n',P v h' n'→a v h' n'):CX C f args h n a:=by
 refine wc c ?_;rintro v _ _ _ ⟨q,g,s,p⟩;exact ⟨q,g,s,j _ _ _ p⟩
def Only (b:Nat)(h h':HF):Prop:=∀c,c≠b→h' c=h c
theorem Ext.st {n:Nat}{h a g:HF}(x:Ext n h a)(o:Only b a g)(hb:3*n≤b):Ext n h g:=fun c j=>(o c zo).trans (x c j)
section
variable {X:CtxF}{r:List Oper}{t:TF}{o:Oper}{d:Tmp}
theorem tK (cs:List Value)(a:Za X ops t o d (cls o.op=2∧mkE X.E o.op (evF t)=some ⟨cs,e,false,none⟩))
  (k:∀h',h' (3*n+2)=some (.row cs e)→Ext n h h'→EO X ops r ⟨upd t d (mo (some ⟨3*n+2,0,none⟩)),h',n+1,w⟩ Q):EO X ops (o::r) ⟨t,h,n,w⟩ Q:=by obtain ⟨a,j,q,g,p⟩:=a;exact zc0 ⟨a,j,q,g,p⟩ (k _ (zg _ _ _) (Ext.upd zo))
theorem wt (cs:List Value)(a:Za X ops t o d (o.op=.alloc e∧X.E.inf e=some (sz,bt,z)∧zn z=cs))
  (k:∀h',h' (3*n+2)=some (.row cs e)→Ext n h h'→EO X ops r ⟨upd t d (mo (some ⟨3*n+2,0,none⟩)),h',n+1,w⟩ Q):EO X ops (o::r) ⟨t,h,n,w⟩ Q:=by
 obtain ⟨a,g,p,q,j,s⟩:=a;subst s;exact xV ⟨a,g,p,q,j⟩ (k _ (zg _ _ _) (Ext.upd zo))
theorem mq {a x:Operand}(c':List Value)(j:zh ops t o=true∧o.dst=none∧o.op=.store ty a x∧X.E.inf ty=some (sz,bt,z)∧evF t a=mo (some ⟨b,off,none⟩))(hb:h b=some (.row c e))(hx:zn (evF t x)=cs∧gP cs=sz∧ones cs=true)(C:off+sz≤gP c)(p:zu c off cs=c')(g:3*X.n0≤b)
  (k:∀h',h' b=some (.row c' e)→Only b h h'→EO X ops r ⟨t,h',n,w⟩ Q):EO X ops (o::r) ⟨t,h,n,w⟩ Q:=by
 obtain ⟨j,A,D,B,s⟩:=j;obtain ⟨hx,F,q⟩:=hx;subst p;exact yF ⟨j,A,D,B,s,hx,F,q⟩ hb C g (k _ (zg _ _ _) fun c u=>zm u)
theorem gJ {P:Value→HF→Nat→Prop}(g:Za X ops t o d (cls o.op=3∧effF X.E o.op (evF t) h n=some (.enter f args)))(a:CX X.C f args h n P)
  (k:∀v h' n',P v h' n'→n≤n'→Ext n h h'→EO X ops r ⟨upd t d v,h',n',w⟩ Q):EO X ops (o::r) ⟨t,h,n,w⟩ Q:=by
 obtain ⟨g,u,B,s,A⟩:=g;refine zF _ ⟨g,u,B,s,A⟩ a ?_;rintro v h' n' _ ⟨rfl,j,p,q⟩;exact k v h' n' q j p
end
section
variable {X:CtxF}{r:List Oper}{t:TF}{o:Oper}{d:Tmp}
theorem zor (cs:List Value)(p:zh ops t o=true)(g:o.dst=some d)(j:zv X.nt (some d)=true)(a:cls o.op=2)(hm:mkE X.E o.op (evF t)=some ⟨cs,e,false,none⟩)
  (k:∀h',h' (3*n+2)=some (.row cs e)→Ext n h h'→ED X ops r ms (i+1) ⟨⟨upd t d (mo (some ⟨3*n+2,0,none⟩)),h',n+1,w⟩,(i,3*n+2)::al,ld,ef⟩ Q):ED X ops (o::r) (m::ms) i ⟨⟨t,h,n,w⟩,al,ld,ef⟩ Q:=
 zql p g j a hm (k _ (zg _ _ _) (Ext.upd zo))
theorem zoq {a x:Operand}(c':List Value)(H:zh ops t o=true)(C:o.dst=none)(F:o.op=.store ty a x)(hi:X.E.inf ty=some (sz,bt,z))(A:evF t a=mo (some ⟨b,off,none⟩))(hb:h b=some (.row c e))(hx:zn (evF t x)=cs)(G:gP cs=sz)(u:ones cs=true)(D:off+sz≤gP c)(j:zu c off cs=c')(g:3*X.n0≤b)(p:xq m ef=true)(q:xJ m al=true)(s:ya m [b] ld=true)
  (k:∀h',h' b=some (.row c' e)→Only b h h'→ED X ops r ms (i+1) ⟨⟨t,h',n,w⟩,al,ld,(i,h,[b])::ef⟩ Q):ED X ops (o::r) (m::ms) i ⟨⟨t,h,n,w⟩,al,ld,ef⟩ Q:=by
 subst j;exact uT ⟨H,C,F,hi,A,hx,G,u⟩ hb D g p q s (k _ (zg _ _ _) fun c B=>zm B)
theorem zlj {P:Value→HF→Nat→Prop}(D:zh ops t o=true)(u:o.dst=some d)(B:zv X.nt (some d)=true)(s:cls o.op=3)(A:effF X.E o.op (evF t) h n=some (.enter f args))(g:CX X.C f args h n P)(j:xq m ef=true)(a:xJ m al=true)
  (k:∀v h' n',P v h' n'→n≤n'→Ext n h h'→ED X ops r ms (i+1) ⟨⟨upd t d v,h',n',w⟩,al,ld,(i,h,[])::ef⟩ Q):ED X ops (o::r) (m::ms) i ⟨⟨t,h,n,w⟩,al,ld,ef⟩ Q:=by
 refine wa _ ⟨D,u,B,s,A,j,a⟩ g ?_;rintro v h' n' _ ⟨rfl,a,p,q⟩;exact ⟨sj,a,k v h' n' q a p⟩
end
theorem qP {s:SV}:resF env s []=some []:=rfl
theorem yX {s:SV}{a:Tmp}{r:List ResultVar}(h:s.t a=v)(g:resF env s r=some vs):resF env s (.tmp a::r)=some (v::vs):=by
 simp only [resF,g,h]
theorem we {s:SV}{a:Tmp}{g:Addr}{r:List ResultVar}(j:s.t a=mo (some g))(p:yB env ty s.h g=some v)(q:resF env s r=some vs):resF env s (.cell a ty::r)=some (v::vs):=by
 simp only [resF,j,p,q]
theorem retX {P:Value→HF→Nat→Prop}{e:Ex}{t:TF}{h:HF}{n:Nat}(vs:List Value)(a:rI e=true∧resF env ⟨t,h,n,[]⟩ fn.results.toList=some vs∧uQ vs=false)(j:n0≤n)(hx:Ext n0 h0 h)(p:P (qm vs) h n):RetH fn (Gw n0 h0 P) e ⟨t,h,n,[]⟩:=by obtain ⟨a,q,g⟩:=a;exact retH vs ⟨a,q,g⟩ ⟨rfl,j,hx,p⟩
def nu:Value→Bool
 | gZ .u64 _=>false
 | gZ .u32 _=>false
 |_=>true
theorem Sl.onlyG {h:HF}{n:Nat}(s:Sl h n 1 v cl)(g:∀x∈cl,nu x=false)(B:h b=some (.row cs e))(C:cs.all nu=true)(A:Only b h h'):Sl h' n 1 v cl:=by
 cases s with
 |nil ha=>exact .nil ha
 | @at_ b2 off len cap x cs2 c2 hb hx hc hcap hl he=>
  by_cases h0:len=0
  ·subst h0;have:cl=[]:=by rw [←he];simp
   subst this;exact .nil (.inr ⟨_,_,_,rfl,hb⟩)
  have j:b2≠b:=by
   intro p;subst p;rw [B] at hx;cases hx;injection hc with hc
   subst hc;have q:gP cl=len:=by rw [←he,sn,sa];omega
   obtain ⟨d,a,rfl⟩:∃d a,cl=d::a:=by
    cases cl with
    |nil=>exact eN q.symm h0
    |cons d a=>exact ⟨d,a,rfl⟩
   have u:d∈cs:=by
    have:d∈(cs.drop off).take (len*1):=by rw [he];exact AR
    exact Bq (AB this)
   have:=BP.1 C _ u;rw [g d AR] at this;cases this
  exact .at_ hb (by rw [A _ j];exact hx) hc hcap hl he
theorem Sl.only {h:HF}{n:Nat}{L:List Nat}(s:Sl h n 1 v (u64s L))(g:h b=some (.row cs e))(j:cs.all nu=true)(a:Only b h h'):Sl h' n 1 v (u64s L):=
 s.onlyG (fun x p=>by obtain ⟨d,_,rfl⟩:=AZ.1 p;rfl) g j a
def WW (h:HF)(n:Nat)(a:Option Addr)(l c m:Nat):Prop:=∃L,Sl h n 1 (gS a l c) (u64s L)∧NW L∧wv L=m
theorem WW.ext {h:HF}{n:Nat}{a:Option Addr}{c m:Nat}(i:WW h n a l c m)(e:Ext n h h')(q:n≤n'):WW h' n' a l c m:=by
 obtain ⟨L,g,j,p⟩:=i;exact ⟨L,g.ext e q,j,p⟩
theorem WW.only {h:HF}{n g:Nat}{a:Option Addr}{c m:Nat}(i:WW h n a l c m)(u:h g=some (.row cs e))(A:cs.all nu=true)(s:Only g h h'):WW h' n a l c m:=by
 obtain ⟨L,j,p,q⟩:=i;exact ⟨L,j.only u A s,p,q⟩
theorem WW.zero {h:HF}{n:Nat}{a:Option Addr}{c m:Nat}(i:WW h n a l c m):l=0↔m=0:=by
 obtain ⟨L,g,j,p⟩:=i;have e:=g.lenW;rw [←p,j.zero_iff,←vT,e]
theorem WW.as {h:HF}{n:Nat}{a:Option Addr}{c m:Nat}(i:WW h n a l c m)(e:m=m'):WW h n a l c m':=e▸i
theorem WW.nil (h:HF)(n:Nat):WW h n none 0 0 0:=⟨[],.nil (.inl rfl),NW.nil,rfl⟩
def IW (h:HF)(n:Nat)(b:Bool)(a:Option Addr)(l c:Nat)(x:Int):Prop:=b=decide (x<0)∧WW h n a l c x.natAbs
theorem IW.ext {h:HF}{n:Nat}{b:Bool}{a:Option Addr}{c:Nat}{x:Int}(i:IW h n b a l c x)(e:Ext n h h')(g:n≤n'):IW h' n' b a l c x:=⟨i.1,i.2.ext e g⟩
theorem IW.only {h:HF}{n g:Nat}{b:Bool}{a:Option Addr}{c:Nat}{x:Int}(i:IW h n b a l c x)(p:h g=some (.row cs e))(q:cs.all nu=true)(j:Only g h h'):IW h' n b a l c x:=⟨i.1,i.2.only p q j⟩
theorem IW.as {h:HF}{n:Nat}{b:Bool}{a:Option Addr}{c:Nat}{x y:Int}(i:IW h n b a l c x)(e:x=y):IW h n b a l c y:=e▸i
theorem IW.lt {h:HF}{n:Nat}{a:Option Addr}{c:Nat}{x:Int}(i:IW h n true a l c x):x<0:=of_decide_eq_true i.1.symm
theorem IW.ge {h:HF}{n:Nat}{a:Option Addr}{c:Nat}{x:Int}(i:IW h n false a l c x):0≤x:=FB.1 (of_decide_eq_false i.1.symm)
def IV (x:Int)(v:Value)(h:HF)(n:Nat):Prop:=∃b a l c,v=.agg #[jx b,gS a l c]∧IW h n b a l c x
def WV (m:Nat)(v:Value)(h:HF)(n:Nat):Prop:=∃a l c,v=gS a l c∧WW h n a l c m
def BV (p:Prop)(v:Value)(_:HF)(_:Nat):Prop:=∃b:Bool,v=jx b∧(b=true↔p)
def SV3 (x:Int)(v:Value)(_:HF)(_:Nat):Prop:=∃s:Int,v=gZ .i64 s∧(s= -1∧x<0∨s=0∧x=0∨s=1∧0<x)
theorem IW.zero (h:HF)(n:Nat):IW h n false none 0 0 0:=⟨rfl,WW.nil h n⟩
def GG (h:HF)(n:Nat):Prop:=GK.G h∧20≤n
theorem GG.ext {h:HF}{n:Nat}(g:GG h n)(e:Ext n h h')(a:n≤n'):GG h' n':=⟨rR g.1 e g.2,Aa g.2 a⟩
def BW:Nat:=18446744073709551616^39
theorem yU {m e:Nat}(h:m<2^e)(j:e≤2496):m<BW:=by
 have a:e≤64*39:=j;generalize hk:39=k at a;have g:m<(2^64)^k:=by
  rw [←Hi];exact Af h (sN zd a)
 subst hk;exact g
theorem NW.len39 {L:List Nat}(h:NW L)(hb:wv L<BW):gP L≤39:=h.len_le hb
def sgZ (b:Bool)(m:Nat):Int:=if b then -(m:Int) else m
theorem zmf (b:Bool)(m:Nat):(sgZ b m).natAbs=m:=by unfold sgZ;split<;>omega
theorem zme (b:Bool)(m:Nat):decide (sgZ b m<0)=(b&&decide (0<m)):=by
 unfold sgZ;cases b
 ·rw [Bool.false_and,decide_eq_false_iff_not];simp
 rw [Bool.true_and];by_cases h:0<m
 ·rw [eH h,eH];simp;omega
 rw [cA h,cA];simp;omega
theorem yJ (k:Nat){h:HF}{n:Nat}{a:Option Addr}{c m:Nat}(i:WW h n a l c m)(g:Bool):CX (cal (k+1)) 151 [jx g,gS a l c] h n (IV (sgZ g m)):=by
 refine wc (rx k h n g a l c) ?_;rintro _ h' n' _ ⟨rfl,rfl,rfl,j⟩;refine ⟨rfl,Al _,j,_,_,_,_,rfl,?_,?_⟩
 ·rw [zme];have:=i.zero;congr 1;by_cases h0:0<l
  ·rw [eH h0,eH zo]
  rw [cA h0,cA zo]
 rw [zmf];exact i.ext j zs
theorem ResW.ww {n:Nat}{h:HF}{w:List Nat}{L:List Nat}(r:ResW n h v h' n' w L){m:Nat}(e:wv L=m):w=[]∧n≤n'∧Ext n h h'∧WV m v h' n':=by
 obtain ⟨j,p,q,g,s⟩:=r;obtain ⟨a,l,c,rfl,_⟩:=g.len;exact ⟨j,p,q,_,_,_,rfl,L,g,s,e⟩
section
variable (k:Nat){h:HF}{n:Nat}{a1 a2:Option Addr}{l1 c1 l2 c2 x y:Nat}
theorem zq4 (i:WW h n a1 l1 c1 x)(j:WW h n a2 l2 c2 y)(hb:x<BW∧y<BW):CX (cal (k+2)) 165 [gS a1 l1 c1,gS a2 l2 c2] h n (WV (x+y)):=by
 obtain ⟨A,p,a,rfl⟩:=i;obtain ⟨C,q,g,rfl⟩:=j;have:=a.len39 hb.1;have:=g.len39 hb.2;refine wc (dK k p q a g zo) ?_;rintro v h' n' w ⟨L,r,e,_⟩;exact r.ww e
theorem zam (i:WW h n a1 l1 c1 x)(j:WW h n a2 l2 c2 y)(hb:x<BW∧y<BW)(a:y≤x):CX (cal (k+2)) 166 [gS a1 l1 c1,gS a2 l2 c2] h n (WV (x-y)):=by
 obtain ⟨A,p,g,rfl⟩:=i;obtain ⟨C,q,s,rfl⟩:=j;have:=g.len39 hb.1;refine wc (fe k p q g s zo a) ?_;rintro v h' n' w ⟨L,r,e,_⟩;exact r.ww e
theorem zed (i:WW h n a1 l1 c1 x)(j:WW h n a2 l2 c2 y)(hb:x<BW∧y<BW):CX (cal (k+3)) 152 [gS a1 l1 c1,gS a2 l2 c2] h n (WV (x*y)):=by
 obtain ⟨A,p,a,rfl⟩:=i;obtain ⟨C,q,g,rfl⟩:=j;have:=a.len39 hb.1;have:=g.len39 hb.2;refine wc (fV k p q a g zo zo) ?_;rintro v h' n' w ⟨L,r,e,_⟩;exact r.ww e
theorem zqo (i:WW h n a1 l1 c1 x)(j:WW h n a2 l2 c2 y)(hb:x<BW∧y<BW)(h0:0<y):CX (cal (k+6)) 171 [gS a1 l1 c1,gS a2 l2 c2] h n fun v h' n'=>∃a l c g q p,v=.tuple #[gS a l c,gS g q p]∧WW h' n' a l c (x/y)∧WW h' n' g q p (x%y):=by
 obtain ⟨A,O,B,rfl⟩:=i;obtain ⟨C,P,D,rfl⟩:=j;have:=B.len39 hb.1;have:=D.len39 hb.2;refine wc (ng k O P B D zo h0) ?_;rintro v h' n' w ⟨R,S,F,G,rfl,H,I,J,s,K,u,L,M,N,_⟩;obtain ⟨a,l,c,rfl,_⟩:=s.len;obtain ⟨g,q,p,rfl,_⟩:=u.len;exact ⟨H,I,J,_,_,_,_,_,_,rfl,⟨F,s,K,M⟩,⟨G,u,L,N⟩⟩
theorem zqe (g:GG h n)(i:WW h n a1 l1 c1 x)(j:WW h n a2 l2 c2 y)(hb:x<BW∧y<BW):CX (cal (k+7)) 135 [gS a1 l1 c1,gS a2 l2 c2] h n (WV (rp x y)):=by
 obtain ⟨A,q,a,rfl⟩:=i;obtain ⟨C,s,p,rfl⟩:=j;have:=a.len39 hb.1;have:=p.len39 hb.2;refine wc (eD k g.1 g.2 q s a p zo) ?_;rintro v h' n' w ⟨L,r,e,_⟩;exact r.ww e
theorem zb1 (i:WW h n a1 l1 c1 x)(j:WW h n a2 l2 c2 y)(hb:x<BW∧y<BW):CX (cal (k+3)) 160 [gS a1 l1 c1,gS a2 l2 c2] h n (SV3 ((x:Int)-y)):=by
 obtain ⟨A,g,a,rfl⟩:=i;obtain ⟨C,p,q,rfl⟩:=j;have:=a.len39 hb.1;refine (uF k g p a q zo).cx.mono ?_;rintro _ _ _ rfl;refine ⟨_,rfl,?_⟩;rcases Nat.lt_trichotomy (wv A) (wv C) with h|h|h
 ·exact .inl ⟨sM h,zo⟩
 ·exact .inr (.inl ⟨by rw [h];exact jd _,zo⟩)
 exact .inr (.inr ⟨sO h,zo⟩)
theorem zqg (h:HF)(n:Nat){w:Nat}(a:w<18446744073709551616):CX (cal (k+1)) 138 [gZ .u64 (w:Int)] h n (WV w):=by
 refine wc (sH k h n a) ?_;rintro v h' n' w ⟨L,r,e,_⟩;exact r.ww e
end
end
section
variable {u:Nat}{h0:HF}{x1 x2 x3 z:Value}
theorem bvs {b:Bool}{p:Prop}(h:b=true↔p):b=false∧¬p∨b=true∧p:=by
 cases b
 ·exact .inl ⟨rfl,fun a=>by cases h.2 a⟩
 exact .inr ⟨rfl,h.1 rfl⟩
theorem zhh {p:Prop}(h:p:=by first|exact ⟨hx,hy⟩|exact ⟨hy,hx⟩):p:=h
theorem zno {p:Prop}(h:¬p):∃b:Bool,jx false=jx b∧(b=true↔p):=⟨_,rfl,fun a=>(by cases a),fun a=>eN a h⟩
theorem zye {p:Prop}(h:p):∃b:Bool,jx true=jx b∧(b=true↔p):=⟨_,rfl,fun _=>h,fun _=>rfl⟩
def Sto (b:Nat)(h h':HF):Prop:=Only b h h'∧∃cs e,h b=some (.row cs e)∧cs.all nu=true
def ExtB (n:Nat)(B:List Nat)(h h':HF):Prop:=∀b,b<3*n→b∉B→h' b=h b
theorem ExtB.refl (n:Nat)(B:List Nat)(h:HF):ExtB n B h h:=fun _ _ _=>rfl
theorem ExtB.ext {n:Nat}{B:List Nat}{a b c:HF}(x:ExtB n B a b)(y:Ext n' b c)(j:n≤n'):ExtB n B a c:=fun k g e=>(y k zo).trans (x k g e)
theorem ExtB.st {n m:Nat}{B:List Nat}{a b c:HF}(x:ExtB n B a b)(o:Only m b c)(hm:3*n≤m∨m∈B):ExtB n B a c:=fun k j g=>by
 refine (o k fun e=>?_).trans (x k j g);subst e;rcases hm with hm|hm
 ·omega
 exact g hm
theorem ExtB.trans {n m:Nat}{B C:List Nat}{a b c:HF}(x:ExtB n B a b)(y:ExtB m C b c)(hm:n≤m)(g:∀k∈C,k∈B∨3*n≤k):ExtB n B a c:=fun k l e=>(y k zo fun j=>by rcases g k j with h|h;exact e h;omega).trans (x k l e)
theorem ExtB.to {n m:Nat}{B:List Nat}{a b:HF}(x:ExtB n B a b)(hm:m≤n)(e:∀k∈B,3*m≤k):Ext m a b:=fun k j=>x k zo fun g=>by have:=e k g;omega
structure Exa (n:Nat)(h h':HF):Prop where
 e:Ext n h h'
theorem Exa.zz {n b:Nat}{h:HF}{y:Option BF}(x:Exa n h h')(hb:b<3*n)(e:h b=y):h' b=y:=(x.e b hb).trans e
theorem Ext.zz {n b:Nat}{h:HF}{y:Option BF}(x:Ext n h h')(hb:b<3*n)(e:h b=y):h' b=y:=(x b hb).trans e
theorem Only.zz {b c:Nat}{h:HF}{y:Option BF}(x:Only b h h')(hb:c≠b)(e:h c=y):h' c=y:=(x c hb).trans e
theorem Sto.zz {b c:Nat}{h:HF}{y:Option BF}(x:Sto b h h')(hb:c≠b)(e:h c=y):h' c=y:=(x.1 c hb).trans e
theorem ExtB.zz {n b:Nat}{B:List Nat}{h:HF}{y:Option BF}(x:ExtB n B h h')(hb:b<3*n)(a:b∉B)(e:h b=y):h' b=y:=(x b hb a).trans e
def Nur (o:Option BF):Prop:=∃x,o=some x∧((∃cs e,x=.row cs e∧cs.all nu=true)∨x.cells=none)
theorem Nur.row {e:TypeId}{o:Option BF}(h:o=some (.row cs e))(a:cs.all nu=true):Nur o:=⟨_,h,.inl ⟨_,_,rfl,a⟩⟩
def Lpo (b:Nat)(h h':HF):Prop:=Only b h h'∧∃x,h b=some x∧x.cells=none
theorem Lpo.zz {b c:Nat}{h:HF}{y:Option BF}(x:Lpo b h h')(hb:c≠b)(e:h c=y):h' c=y:=(x.1 c hb).trans e
def Tr (n:Nat)(h:HF)(n':Nat)(h':HF):Prop:=n≤n'∧∀c,c<3*n→h' c=h c∨Nur (h c)
def Tx (n:Nat)(h:HF)(n':Nat)(h':HF):Prop:=n≤n'∧Ext n h h'
def Ty (n:Nat)(B:List Nat)(h:HF)(n':Nat)(h':HF):Prop:=n≤n'∧ExtB n B h h'
section
variable {B:List Nat}
theorem Tr.refl (n:Nat)(h:HF):Tr n h n h:=⟨eU,fun _ _=>.inl rfl⟩
theorem Tr.e (x:Ext n1 h1 h2)(g:n1≤n2)(t:Tr n h n1 h1):Tr n h n2 h2:=⟨Aa t.1 g,fun c a=>by rw [x c (by have:=t.1;omega)];exact t.2 c a⟩
theorem Tr.s (x:Sto b h1 h2)(t:Tr n h n1 h1):Tr n h n1 h2:=by
 refine ⟨t.1,fun c g=>?_⟩;by_cases e:c=b
 ·subst e;obtain ⟨cs,e,j,l⟩:=x.2;rcases t.2 c g with a|a
  ·rw [a] at j;exact .inr (.row j l)
  exact .inr a
 rw [x.1 c e];exact t.2 c g
theorem Tr.l (x:Lpo b h1 h2)(t:Tr n h n1 h1):Tr n h n1 h2:=by
 refine ⟨t.1,fun c g=>?_⟩;by_cases e:c=b
 ·subst e;obtain ⟨y,j,p⟩:=x.2;rcases t.2 c g with a|a
  ·rw [a] at j;exact .inr ⟨y,j,.inr p⟩
  exact .inr a
 rw [x.1 c e];exact t.2 c g
theorem Tr.trans {n1 n2:Nat}{h1 h2:HF}(a:Tr n h n1 h1)(b:Tr n1 h1 n2 h2):Tr n h n2 h2:=by
 refine ⟨Aa a.1 b.1,fun c j=>?_⟩;rcases b.2 c (by have:=a.1;omega) with e|e
 ·rw [e];exact a.2 c j
 rcases a.2 c j with g|g
 ·rw [g] at e;exact .inr e
 exact .inr g
theorem Tx.lp (x:Lpo b h1 h2)(hb:3*n≤b)(t:Tx n h n1 h1):Tx n h n1 h2:=⟨t.1,t.2.st x.1 hb⟩
theorem Ty.lp (x:Lpo b h1 h2)(hb:3*n≤b∨b∈B)(t:Ty n B h n1 h1):Ty n B h n1 h2:=⟨t.1,t.2.st x.1 hb⟩
theorem Tx.refl (n:Nat)(h:HF):Tx n h n h:=⟨eU,Ext.refl _ _⟩
theorem Tx.e (x:Ext n1 h1 h2)(a:n1≤n2)(t:Tx n h n1 h1):Tx n h n2 h2:=⟨Aa t.1 a,t.2.trans x t.1⟩
theorem Tx.a (x:Exa lo h1 h2)(g:n≤lo)(j:n≤n2)(t:Tx n h n1 h1):Tx n h n2 h2:=⟨j,t.2.trans x.e g⟩
theorem Tx.o (x:Only b h1 h2)(hb:3*n≤b)(t:Tx n h n1 h1):Tx n h n1 h2:=⟨t.1,t.2.st x hb⟩
theorem Tx.s (x:Sto b h1 h2)(hb:3*n≤b)(t:Tx n h n1 h1):Tx n h n1 h2:=⟨t.1,t.2.st x.1 hb⟩
theorem Tx.l (x:ExtB n1 B h1 h2)(e:n1≤n2)(a:∀k∈B,3*n≤k)(t:Tx n h n1 h1):Tx n h n2 h2:=⟨Aa t.1 e,t.2.trans (x.to t.1 a) eU⟩
theorem Ty.refl (n:Nat)(B:List Nat)(h:HF):Ty n B h n h:=⟨eU,ExtB.refl _ _ _⟩
theorem Ty.e (x:Ext n1 h1 h2)(a:n1≤n2)(t:Ty n B h n1 h1):Ty n B h n2 h2:=⟨Aa t.1 a,t.2.ext x t.1⟩
theorem Ty.a (x:Exa lo h1 h2)(g:n≤lo)(j:n≤n2)(t:Ty n B h n1 h1):Ty n B h n2 h2:=⟨j,t.2.ext x.e g⟩
theorem Ty.o (x:Only b h1 h2)(hb:3*n≤b∨b∈B)(t:Ty n B h n1 h1):Ty n B h n1 h2:=⟨t.1,t.2.st x hb⟩
theorem Ty.s (x:Sto b h1 h2)(hb:3*n≤b∨b∈B)(t:Ty n B h n1 h1):Ty n B h n1 h2:=⟨t.1,t.2.st x.1 hb⟩
theorem Ty.l (x:ExtB n1 C h1 h2)(e:n1≤n2)(a:∀k∈C,k∈B∨3*n≤k)(t:Ty n B h n1 h1):Ty n B h n2 h2:=⟨Aa t.1 e,t.2.trans x t.1 a⟩
end
theorem Sl.trG {h:HF}{n:Nat}(s:Sl h n 1 v cl)(l:∀x∈cl,nu x=false)(t:Tr n h n' h'):Sl h' n' 1 v cl:=by
 cases s with
 |nil ha=>exact .nil (uw ha t.1)
 | @at_ b2 off len cap x cs2 c2 hb hx hc hcap hl he=>
  have g:b2<3*n':=by have:=t.1;omega
  rcases t.2 b2 hb with e|⟨y,j,⟨cs,e,rfl,D⟩|p⟩
  ·exact .at_ g (e.trans hx) hc hcap hl he
  ·by_cases h0:len=0
   ·subst h0;have:cl=[]:=by rw [←he];simp
    subst this;exact .nil (.inr ⟨_,_,_,rfl,g⟩)
   exfalso;rw [j] at hx;cases hx;injection hc with hc
   subst hc;have q:gP cl=len:=by rw [←he,sn,sa];omega
   obtain ⟨d,a,rfl⟩:∃d a,cl=d::a:=by
    cases cl with
    |nil=>exact eN q.symm h0
    |cons d a=>exact ⟨d,a,rfl⟩
   have A:d∈cs:=by
    have:d∈(cs.drop off).take (len*1):=by rw [he];exact AR
    exact Bq (AB this)
   have:=BP.1 D _ A;rw [l d AR] at this;cases this
  rw [hx] at j;cases j;rw [hc] at p;cases p
theorem WW.t {h:HF}{n:Nat}{a:Option Addr}{l c m:Nat}(i:WW h n a l c m)(t:Tr n h n' h'):WW h' n' a l c m:=by
 obtain ⟨L,h1,h2,e⟩:=i;exact ⟨L,h1.trG (fun x g=>by obtain ⟨d,_,rfl⟩:=AZ.1 g;rfl) t,h2,e⟩
theorem IW.t {h:HF}{n:Nat}{b:Bool}{a:Option Addr}{l c:Nat}{x:Int}(i:IW h n b a l c x)(t:Tr n h n' h'):IW h' n' b a l c x:=⟨i.1,i.2.t t⟩
theorem GG.t {h:HF}{n:Nat}(g:GG h n)(t:Tr n h n' h'):GG h' n':=by
 obtain ⟨⟨A,D,F⟩,G⟩:=g;have f:∀c x,h c=some x→(∀cs e,x=.row cs e→cs.all nu=false)→c<60→(∀y,x=y→y.cells≠none)→h' c=some x:=by
  intro c x l H L I;rcases t.2 c zo with s|⟨y,a,⟨J,K,rfl,p⟩|j⟩
  ·rw [s,l]
  ·rw [l] at a;injection a with a
   rw [H _ _ a] at p;cases p
  rw [l] at a;injection a with a
  subst a;exact eN j (I _ rfl)
 refine ⟨⟨f _ _ A ?_ ?_ ?_,f _ _ D ?_ ?_ ?_,f _ _ F ?_ ?_ ?_⟩,Aa G t.1⟩<;>first|decide|(intro cs e q;cases q<;>rfl)|(intro y q;subst q;intro j;cases j)
theorem GG.x {h:HF}{n:Nat}(g:GG h n)(t:Tx n h n' h'):GG h' n':=g.ext t.2 t.1
theorem IW.x {h:HF}{n:Nat}{b:Bool}{a:Option Addr}{l c:Nat}{x:Int}(i:IW h n b a l c x)(t:Tx n h n' h'):IW h' n' b a l c x:=i.ext t.2 t.1
theorem Sl.x {h:HF}{n:Nat}(s:Sl h n sz v c)(t:Tx n h n' h'):Sl h' n' sz v c:=s.ext t.2 t.1
theorem zt {n:Nat}{h:HF}(t:Tr n h n' h':=by (repeat (first|exact Tr.refl _ _|(apply Tr.e;assumption;(first|assumption|exact Nat.le_refl _|exact Nat.le_succ _|omega))|(apply Tr.s;assumption)|(apply Tr.l;assumption)))):Tr n h n' h':=t
theorem zx {n:Nat}{h:HF}(t:Tx n h n' h':=by (repeat (first|exact Tx.refl _ _|(apply Tx.e;assumption;(first|assumption|exact Nat.le_refl _|exact Nat.le_succ _|omega))|(apply Tx.a;assumption;omega;omega)|(apply Tx.s;assumption;omega)|(apply Tx.o;assumption;omega)|(apply Tx.lp;assumption;omega)|(apply Tx.l;assumption;(first|assumption|exact Nat.le_refl _|exact Nat.le_succ _|omega);(intro b g;simp only [List.mem_cons,List.not_mem_nil,or_false] at g<;>omega))))):Tx n h n' h':=t
theorem zy {n:Nat}{B:List Nat}{h:HF}(t:Ty n B h n' h':=by (repeat (first|exact Ty.refl _ _ _|(apply Ty.e;assumption;(first|assumption|exact Nat.le_refl _|exact Nat.le_succ _|omega))|(apply Ty.a;assumption;omega;omega)|(apply Ty.s;assumption;(first|(left;omega)|(right;simp)))|(apply Ty.o;assumption;(first|(left;omega)|(right;simp)))|(apply Ty.lp;assumption;(first|(left;omega)|(right;simp)))|(apply Ty.l;assumption;(first|assumption|exact Nat.le_refl _|exact Nat.le_succ _|omega);(intro b g;simp only [List.mem_cons,List.not_mem_nil,or_false] at g ⊢ <;>omega))))):ExtB n B h h':=t.2
theorem zp {b:Nat}{h:HF}{x:Option BF}(t:h b=x:=by (repeat (first|assumption|(apply Ext.zz;assumption;omega)|(apply Sto.zz;assumption;omega)|(apply Only.zz;assumption;omega)|(apply Lpo.zz;assumption;omega)|(apply Exa.zz;assumption;omega)|(apply ExtB.zz;assumption;omega;(simp only [List.mem_cons,List.not_mem_nil,or_false,not_false_eq_true]<;>omega))))):h b=x:=t
theorem ldG {h:HF}{b:Nat}{e:TypeId}{r:List Value}(L:List Value)(g:GL.isAgg E ty=some true)(hi:E.inf ty=some (sz,bt,z))(hb:h b=some (.row c e))(a:c.drop off=L++r)(j:L.length=sz)(h1:0<L.length:=by exact Nat.succ_pos _):yB E ty h ⟨b,off,none⟩=some (.agg L.toArray):=by
 have h2:=congrArg List.length a;rw [List.length_drop,List.length_append] at h2;refine yw (cs:=L) ⟨g,hi⟩ hb rfl zo ?_;rw [a,←j,List.take_left]
theorem ld1 {h:HF}{b:Nat}{e:TypeId}{r:List Value}(a:CI E ty=some true)(hi:E.inf ty=some (1,bt,z))(hb:h b=some (.row c e))(g:c.drop off=x1::r):yB E ty h ⟨b,off,none⟩=some (.agg #[x1]):=ldG [x1] a hi hb g rfl
theorem ld2 {h:HF}{b:Nat}{e:TypeId}{r:List Value}(a:CI E ty=some true)(hi:E.inf ty=some (2,bt,z))(hb:h b=some (.row c e))(g:c.drop off=x1::x2::r):yB E ty h ⟨b,off,none⟩=some (.agg #[x1,x2]):=ldG [x1,x2] a hi hb g rfl
theorem ld3 {h:HF}{b:Nat}{e:TypeId}{r:List Value}(a:CI E ty=some true)(hi:E.inf ty=some (3,bt,z))(hb:h b=some (.row c e))(g:c.drop off=x1::x2::x3::r):yB E ty h ⟨b,off,none⟩=some (.agg #[x1,x2,x3]):=ldG [x1,x2,x3] a hi hb g rfl
theorem ld4 {h:HF}{b:Nat}{e:TypeId}{r:List Value}(a:CI E ty=some true)(hi:E.inf ty=some (4,bt,z))(hb:h b=some (.row c e))(g:c.drop off=x1::x2::x3::x4::r):yB E ty h ⟨b,off,none⟩=some (.agg #[x1,x2,x3,x4]):=ldG [x1,x2,x3,x4] a hi hb g rfl
theorem ld5 {h:HF}{b:Nat}{e:TypeId}{r:List Value}(a:CI E ty=some true)(hi:E.inf ty=some (5,bt,z))(hb:h b=some (.row c e))(g:c.drop off=x1::x2::x3::x4::x5::r):yB E ty h ⟨b,off,none⟩=some (.agg #[x1,x2,x3,x4,x5]):=ldG [x1,x2,x3,x4,x5] a hi hb g rfl
theorem ld6 {h:HF}{b:Nat}{e:TypeId}{r:List Value}(a:CI E ty=some true)(hi:E.inf ty=some (6,bt,z))(hb:h b=some (.row c e))(g:c.drop off=x1::x2::x3::x4::x5::x6::r):yB E ty h ⟨b,off,none⟩=some (.agg #[x1,x2,x3,x4,x5,x6]):=ldG [x1,x2,x3,x4,x5,x6] a hi hb g rfl
theorem ld10 {h:HF}{b:Nat}{e:TypeId}{g j l a:Value}{r:List Value}(p:CI E ty=some true)(hi:E.inf ty=some (10,bt,z))(hb:h b=some (.row c e))(q:c.drop off=x1::x2::x3::x4::x5::x6::g::j::l::a::r):yB E ty h ⟨b,off,none⟩=some (.agg #[x1,x2,x3,x4,x5,x6,g,j,l,a]):=ldG [x1,x2,x3,x4,x5,x6,g,j,l,a] p hi hb q rfl
theorem ld11 {h:HF}{b:Nat}{e:TypeId}{j l p a g:Value}{r:List Value}(q:CI E ty=some true)(hi:E.inf ty=some (11,bt,z))(hb:h b=some (.row c e))(s:c.drop off=x1::x2::x3::x4::x5::x6::j::l::p::a::g::r):yB E ty h ⟨b,off,none⟩=some (.agg #[x1,x2,x3,x4,x5,x6,j,l,p,a,g]):=ldG [x1,x2,x3,x4,x5,x6,j,l,p,a,g] q hi hb s rfl
structure Hd (q:Prop):Prop where
 go:q
def ezO:Op→Bool
 | .move _=>true
 | .assign _=>true
 | .pick _ _ _=>true
 | .nilCheck _=>true
 | .unOp _ _ _=>true
 | .fieldAddr _ _ _=>true
 | .extract _ _=>true
 |_=>false
def bnO:Op→Bool
 | .binOp _ _ _ _ _=>true
 |_=>false
def litB:Value→Bool
 | jx b=>b|| !b
 |_=>false
def lnO:Op→Option Operand
 | .call c=>(match c.callee,c.args.toList with| .builtin .len,[x]=>some x|_,_=>none)
 |_=>none
section
variable {X:CtxF}{r:List Oper}{t:TF}{o:Oper}{d:Tmp}
theorem zgE (_:ezO o.op=true)(k:EO X ops (o::r) ⟨t,h,n,w⟩ Q):EO X ops (o::r) ⟨t,h,n,w⟩ Q:=k
theorem zgB (_:bnO o.op=true)(k:EO X ops (o::r) ⟨t,h,n,w⟩ Q):EO X ops (o::r) ⟨t,h,n,w⟩ Q:=k
theorem zgL {x:Operand}{b:Nat}{y:BF}(_:o.op=.load ty x)(_:evF t x=mo (some ⟨b,off,none⟩))(hb:h b=some y)(k:h b=some y→EO X ops (o::r) ⟨t,h,n,w⟩ Q):EO X ops (o::r) ⟨t,h,n,w⟩ Q:=k hb
theorem zgQ {x:Operand}{q:BinOp}(_:o.op=.binOp q ty x y ty')(_:litB (evF t x)=true)(_:litB (evF t y)=true)(k:EO X ops (o::r) ⟨t,h,n,w⟩ Q):EO X ops (o::r) ⟨t,h,n,w⟩ Q:=k
theorem zgN {x:Operand}{a:Option Addr}{l c:Nat}(_:lnO o.op=some x)(_:evF t x=gS a l c)(k:EO X ops (o::r) ⟨t,h,n,w⟩ Q):EO X ops (o::r) ⟨t,h,n,w⟩ Q:=k
end
section
variable {X:CtxF}{r:List Oper}{t:TF}{o:Oper}{d:Tmp}
theorem zhE (_:ezO o.op=true)(k:ED X ops (o::r) (m::ms) i ⟨⟨t,h,n,w⟩,al,ld,ef⟩ Q):ED X ops (o::r) (m::ms) i ⟨⟨t,h,n,w⟩,al,ld,ef⟩ Q:=k
theorem zhB (_:bnO o.op=true)(k:ED X ops (o::r) (m::ms) i ⟨⟨t,h,n,w⟩,al,ld,ef⟩ Q):ED X ops (o::r) (m::ms) i ⟨⟨t,h,n,w⟩,al,ld,ef⟩ Q:=k
theorem zhL {x:Operand}{b:Nat}{y:BF}{g:HF}(_:o.op=.load ty x)(_:evF t x=mo (some ⟨b,off,none⟩))(_:wn m ef i h=(u,g))(hb:g b=some y)(k:g b=some y→ED X ops (o::r) (m::ms) i ⟨⟨t,h,n,w⟩,al,ld,ef⟩ Q):ED X ops (o::r) (m::ms) i ⟨⟨t,h,n,w⟩,al,ld,ef⟩ Q:=k hb
theorem zhQ {x:Operand}{q:BinOp}(_:o.op=.binOp q ty x y ty')(_:litB (evF t x)=true)(_:litB (evF t y)=true)(k:ED X ops (o::r) (m::ms) i ⟨⟨t,h,n,w⟩,al,ld,ef⟩ Q):ED X ops (o::r) (m::ms) i ⟨⟨t,h,n,w⟩,al,ld,ef⟩ Q:=k
theorem zhN {x:Operand}{a:Option Addr}{l c:Nat}(_:lnO o.op=some x)(_:evF t x=gS a l c)(k:ED X ops (o::r) (m::ms) i ⟨⟨t,h,n,w⟩,al,ld,ef⟩ Q):ED X ops (o::r) (m::ms) i ⟨⟨t,h,n,w⟩,al,ld,ef⟩ Q:=k
end
theorem zG {p q:Prop}(k:q)(e:Hd q→p:=by intro k;(repeat (first|refine zsa R3 ?_|(refine zgE rfl ?_;first|refine st_I R5 ?_|refine st_B R5 ?_|refine st_S R5 ?_|refine st_P R5 ?_|refine st_A R5 ?_|refine st_T R5 ?_|refine st_U R5 ?_|refine zS (v:=.pointer none) R4 rfl ?_)|(refine zgL rfl rfl (by (repeat (first|assumption|(apply Ext.zz;assumption;omega)|(apply Sto.zz;assumption;omega)|(apply Only.zz;assumption;omega)|(apply Lpo.zz;assumption;omega)|(apply Exa.zz;assumption;omega)|(apply ExtB.zz;assumption;omega;(simp only [List.mem_cons,List.not_mem_nil,or_false,not_false_eq_true]<;>omega))))) (fun a=>?_);first|refine z7 R5 (zX rfl a R2) ?_|refine z7 R5 (ld1 rfl rfl a rfl) ?_|refine z7 R5 (ld2 rfl rfl a rfl) ?_|refine z7 R5 (ld3 rfl rfl a rfl) ?_|refine z7 R5 (ld4 rfl rfl a rfl) ?_|refine z7 R5 (ld5 rfl rfl a rfl) ?_|refine z7 R5 (ld6 rfl rfl a rfl) ?_|refine z7 R5 (ld10 rfl rfl a rfl) ?_|refine z7 R5 (ld11 rfl rfl a rfl) ?_)|(refine zgN rfl rfl ?_;refine st_I R5 ?_)|(refine zgQ rfl rfl rfl ?_;refine st_B R5 ?_)|(refine zgB rfl ?_;first|refine jC R6 zo ?_|refine zc2 R6 zo ?_|refine oa R6 zo ?_|refine mD R6 zo ?_|refine zsc R6 zo ?_|refine zsd R6 zo ?_|refine jD R6 zo ?_|refine zse R6 zo ?_|refine zc3 R6 zo ?_|refine zc4 R6 zo ?_|refine zsh R6 zo ?_|refine zsi R6 zo ?_|refine uI R6 zo ?_|refine qO R6 zo ?_)|simp only [NV,Nat.reduceEqDiff,reduceCtorEq]|refine (ze rfl).mpr ?_|refine (za rfl).mpr ?_));exact k.go):p:=e ⟨k⟩
theorem zH {p q:Prop}(k:q)(e:Hd q→p:=by intro k;(repeat (first|refine zfk rfl rfl rfl ?_|(refine zhE rfl ?_;first|refine dr_I R5 ?_|refine dr_B R5 ?_|refine dr_S R5 ?_|refine dr_P R5 ?_|refine dr_A R5 ?_|refine dr_T R5 ?_|refine dr_U R5 ?_)|(refine zhL rfl rfl rfl (by (repeat (first|assumption|(apply Ext.zz;assumption;omega)|(apply Sto.zz;assumption;omega)|(apply Only.zz;assumption;omega)|(apply Lpo.zz;assumption;omega)|(apply Exa.zz;assumption;omega)|(apply ExtB.zz;assumption;omega;(simp only [List.mem_cons,List.not_mem_nil,or_false,not_false_eq_true]<;>omega))))) (fun a=>?_);first|refine yd R6 (zX rfl a R2) R2 ?_|refine yd R6 (ld1 rfl rfl a rfl) R2 ?_|refine yd R6 (ld2 rfl rfl a rfl) R2 ?_|refine yd R6 (ld3 rfl rfl a rfl) R2 ?_|refine yd R6 (ld4 rfl rfl a rfl) R2 ?_|refine yd R6 (ld5 rfl rfl a rfl) R2 ?_|refine yd R6 (ld6 rfl rfl a rfl) R2 ?_|refine yd R6 (ld10 rfl rfl a rfl) R2 ?_|refine yd R6 (ld11 rfl rfl a rfl) R2 ?_)|(refine zhN rfl rfl ?_;refine dr_I R5 ?_)|(refine zhQ rfl rfl rfl ?_;refine dr_B R5 ?_)|(refine zhB rfl ?_;first|refine zk0 R6 zo ?_|refine zk1 R6 zo ?_|refine zk2 R6 zo ?_|refine zk3 R6 zo ?_|refine zk4 R6 zo ?_|refine zk5 R6 zo ?_|refine zk6 R6 zo ?_|refine zk7 R6 zo ?_|refine zk8 R6 zo ?_|refine zk9 R6 zo ?_|refine zfl R6 zo ?_|refine zfm R6 zo ?_|refine zfo R6 zo ?_|refine zfj R6 zo ?_)|simp only [NV,Nat.reduceEqDiff,reduceCtorEq]|refine (ze rfl).mpr ?_|refine (za rfl).mpr ?_));exact k.go):p:=e ⟨k⟩
theorem zJ {p q:Prop}(k:q)(e:Hd q→p:=by intro k;refine zH ?_;refine zG ?_;exact k.go):p:=e ⟨k⟩
section
variable {X:CtxF}{r:List Oper}{t:TF}{o:Oper}{d:Tmp}
theorem zrq {m b i c:Nat}{r:List (Nat×Nat)}(h:c≠b)(k:ya m [b] r=true):ya m [b] ((i,c)::r)=true:=by
 have a:memN c [b]=false:=by
  unfold memN;cases he:AD c b with
  |false=>rfl
  |true=>exact eN (Ay he) h
 unfold ya;rw [a,Df,Bool.or_true];exact k
theorem vc_A (h:v=.agg ⟨cs⟩):zn v=cs:=by
 subst h;rfl
theorem sA {e:TypeId}(k:∀h',h' (3*n+2)=some (.row cs e)→Ext n h h'→EO X ops r ⟨upd t d (.pointer (some ⟨3*n+2,0,none⟩)),h',n+1,w⟩ Q)(a:zh ops t o=true:=by exact rfl)(hd:o.dst=some d:=by exact rfl)(hn:zv X.nt (some d)=true:=by exact rfl)(ho:o.op=.alloc e:=by exact rfl)(hi:X.E.inf e=some (sz,bt,z):=by exact rfl)(hz:zn z=cs:=by first|exact vc_A rfl|exact rfl):EO X ops (o::r) ⟨t,h,n,w⟩ Q:=wt cs ⟨a,hd,hn,ho,hi,hz⟩ k
theorem sB {e:TypeId}(cs:List Value)(k:∀h',h' (3*n+2)=some (.row cs e)→Ext n h h'→EO X ops r ⟨upd t d (.pointer (some ⟨3*n+2,0,none⟩)),h',n+1,w⟩ Q)(a:zh ops t o=true:=by exact rfl)(hd:o.dst=some d:=by exact rfl)(hn:zv X.nt (some d)=true:=by exact rfl)(hc:cls o.op=2:=by exact rfl)(hm:mkE X.E o.op (evF t)=some ⟨cs,e,false,none⟩:=by exact rfl):EO X ops (o::r) ⟨t,h,n,w⟩ Q:=tK cs ⟨a,hd,hn,hc,hm⟩ k
theorem sC {P:Value→HF→Nat→Prop}(a:CX X.C f args h n P)(k:∀v h' n',P v h' n'→n≤n'→Ext n h h'→EO X ops r ⟨upd t d v,h',n',w⟩ Q)(e:zh ops t o=true:=by exact rfl)(hd:o.dst=some d:=by exact rfl)(hn:zv X.nt (some d)=true:=by exact rfl)(hc:cls o.op=3:=by exact rfl)(he:effF X.E o.op (evF t) h n=some (.enter f args):=by exact rfl):EO X ops (o::r) ⟨t,h,n,w⟩ Q:=gJ ⟨e,hd,hn,hc,he⟩ a k
theorem sT (cs:Array Value)(k:EO X ops r ⟨upd t d (.agg cs),h,n,w⟩ Q)(a:zh ops t o=true:=by exact rfl)(hd:o.dst=some d:=by exact rfl)(hn:zv X.nt (some d)=true:=by exact rfl)(hc:cls o.op=0:=by exact rfl)(hv:yy X.E o.op (evF t)=some (.agg cs):=by exact rfl):EO X ops (o::r) ⟨t,h,n,w⟩ Q:=st_A ⟨a,hd,hn,hc,hv⟩ k
theorem sS {a x:Operand}{b:Nat}{e:TypeId}(c':List Value)(k:∀h',h' b=some (.row c' e)→Sto b h h'→EO (ctx kk n0 nt) ops r ⟨t,h',n,w⟩ Q)(g:zh ops t o=true:=by exact rfl)(hd:o.dst=none:=by exact rfl)(ho:o.op=.store ty a x:=by exact rfl)(hi:env.inf ty=some (sz,bt,z):=by exact rfl)(ha:evF t a=.pointer (some ⟨b,off,none⟩):=by exact rfl)(hb:h b=some (.row c e):=by exact zp)(hu:c.all nu=true:=by exact rfl)(hx:zn (evF t x)=cs:=by exact rfl)(hs:cs.length=sz:=by exact rfl)(h1:ones cs=true:=by exact rfl)(hl:off+sz≤c.length:=by exact zb)(hsp:zu c off cs=c':=by exact rfl)(hnew:3*n0≤b:=by omega):EO (ctx kk n0 nt) ops (o::r) ⟨t,h,n,w⟩ Q:=mq c' ⟨g,hd,ho,hi,ha⟩ hb ⟨hx,hs,h1⟩ hl hsp hnew fun h' p q=>k h' p ⟨q,_,_,hb,hu⟩
end
section
variable {X:CtxF}{r:List Oper}{t:TF}{o:Oper}{d:Tmp}
theorem dB {e:TypeId}(cs:List Value)(k:∀h',h' (3*n+2)=some (.row cs e)→Ext n h h'→ED X ops r ms (i+1) ⟨⟨upd t d (.pointer (some ⟨3*n+2,0,none⟩)),h',n+1,w⟩,(i,3*n+2)::al,ld,ef⟩ Q)(a:zh ops t o=true:=by exact rfl)(hd:o.dst=some d:=by exact rfl)(hn:zv X.nt (some d)=true:=by exact rfl)(hc:cls o.op=2:=by exact rfl)(hm:mkE X.E o.op (evF t)=some ⟨cs,e,false,none⟩:=by exact rfl):ED X ops (o::r) (m::ms) i ⟨⟨t,h,n,w⟩,al,ld,ef⟩ Q:=zor cs a hd hn hc hm k
theorem dC {P:Value→HF→Nat→Prop}(a:CX X.C f args h n P)(k:∀v h' n',P v h' n'→n≤n'→Ext n h h'→ED X ops r ms (i+1) ⟨⟨upd t d v,h',n',w⟩,al,ld,(i,h,[])::ef⟩ Q)(e:zh ops t o=true:=by exact rfl)(hd:o.dst=some d:=by exact rfl)(hn:zv X.nt (some d)=true:=by exact rfl)(hc:cls o.op=3:=by exact rfl)(he:effF X.E o.op (evF t) h n=some (.enter f args):=by exact rfl)(h1:xq m ef=true:=by exact rfl)(h2:xJ m al=true:=by exact rfl):ED X ops (o::r) (m::ms) i ⟨⟨t,h,n,w⟩,al,ld,ef⟩ Q:=zlj e hd hn hc he a h1 h2 k
theorem dT (cs:Array Value)(k:ED X ops r ms (i+1) ⟨⟨upd t d (.agg cs),h,n,w⟩,al,ld,ef⟩ Q)(a:zh ops t o=true:=by exact rfl)(hd:o.dst=some d:=by exact rfl)(hn:zv X.nt (some d)=true:=by exact rfl)(hc:(cls o.op==0||cls o.op==4)=true:=by exact rfl)(hv:yy X.E o.op (evF t)=some (.agg cs):=by exact rfl):ED X ops (o::r) (m::ms) i ⟨⟨t,h,n,w⟩,al,ld,ef⟩ Q:=dr_A ⟨a,hd,hn,hc,hv⟩ k
theorem dS {a x:Operand}{b:Nat}{e:TypeId}(c':List Value)(k:∀h',h' b=some (.row c' e)→Sto b h h'→ED (ctx kk n0 nt) ops r ms (i+1) ⟨⟨t,h',n,w⟩,al,ld,(i,h,[b])::ef⟩ Q)(g:zh ops t o=true:=by exact rfl)(hd:o.dst=none:=by exact rfl)(ho:o.op=.store ty a x:=by exact rfl)(hi:env.inf ty=some (sz,bt,z):=by exact rfl)(ha:evF t a=.pointer (some ⟨b,off,none⟩):=by exact rfl)(hb:h b=some (.row c e):=by exact zp)(hu:c.all nu=true:=by exact rfl)(hx:zn (evF t x)=cs:=by exact rfl)(hs:cs.length=sz:=by exact rfl)(h1:ones cs=true:=by exact rfl)(hl:off+sz≤c.length:=by exact zb)(hsp:zu c off cs=c':=by exact rfl)(hnew:3*n0≤b:=by omega)(g1:xq m ef=true:=by exact rfl)(g2:xJ m al=true:=by exact rfl)(g3:ya m [b] ld=true:=by first|exact rfl|(repeat (first|exact rfl|(apply zrq;omega)))):ED (ctx kk n0 nt) ops (o::r) (m::ms) i ⟨⟨t,h,n,w⟩,al,ld,ef⟩ Q:=zoq c' g hd ho hi ha hb hx hs h1 hl hsp hnew g1 g2 g3 fun h' p q=>k h' p ⟨q,_,_,hb,hu⟩
end
theorem zj7 {s:SV}{a:Tmp}{b:Nat}{y:BF}{r:List ResultVar}(_:s.t a=mo (some ⟨b,off,none⟩))(hb:s.h b=some y)(k:s.h b=some y→resF env s (.cell a ty::r)=some vs):resF env s (.cell a ty::r)=some vs:=k hb
theorem zq {p:Prop}{P:Value→HF→Nat→Prop}{e:Ex}{t:TF}{h:HF}{n0 n:Nat}(a:P (qm vs) h n)(go:Hd (RetH fn (Gw n0 h0 P) e ⟨t,h,n,[]⟩)→p:=by intro k;refine zH ?_;refine zG ?_;exact k.go)(he:rI e=true:=by exact rfl)(hr:resF env ⟨t,h,n,[]⟩ fn.results.toList=some vs:=by (repeat (first|exact qP|(apply yX (v:=.bool _);exact rfl)|(apply yX (v:=.int _ _);exact rfl)|(apply yX (v:=.slice _ _ _);exact rfl)|(apply yX (v:=.agg #[_,_]);exact rfl)|(apply yX (v:=.agg #[_,_,_,_]);exact rfl)|(apply yX (v:=.string _);exact rfl)|(apply yX;exact rfl)|(apply zj7;exact rfl;(focus ((repeat (first|assumption|(apply Ext.zz;assumption;omega)|(apply Sto.zz;assumption;omega)|(apply Only.zz;assumption;omega)|(apply Lpo.zz;assumption;omega)|(apply Exa.zz;assumption;omega)|(apply ExtB.zz;assumption;omega;(simp only [List.mem_cons,List.not_mem_nil,or_false,not_false_eq_true]<;>omega))));done));intro hblk;first|(apply we;exact rfl;exact zX rfl hblk R2)|(apply we;exact rfl;exact ld1 rfl rfl hblk rfl)|(apply we;exact rfl;exact ld2 rfl rfl hblk rfl)|(apply we;exact rfl;exact ld3 rfl rfl hblk rfl)|(apply we;exact rfl;exact ld4 rfl rfl hblk rfl)|(apply we;exact rfl;exact ld5 rfl rfl hblk rfl)|(apply we;exact rfl;exact ld6 rfl rfl hblk rfl)|(apply we;exact rfl;exact ld10 rfl rfl hblk rfl)|(apply we;exact rfl;exact ld11 rfl rfl hblk rfl)))))(hf:uQ vs=false:=by exact rfl)(hx:Tx n0 h0 n h:=by exact zx):p:=go ⟨retX vs ⟨he,hr,hf⟩ hx.1 hx.2 a⟩
theorem zf {p:Prop}{P:Value→Prop}{e:Ex}{s:SV}(a:P (qm vs))(go:Hd (RetF fn P e s)→p:=by intro k;refine zH ?_;refine zG ?_;exact k.go)(he:rI e=true:=by exact rfl)(hr:resF env s fn.results.toList=some vs:=by (repeat (first|exact qP|(apply yX (v:=.bool _);exact rfl)|(apply yX (v:=.int _ _);exact rfl)|(apply yX (v:=.slice _ _ _);exact rfl)|(apply yX (v:=.agg #[_,_]);exact rfl)|(apply yX (v:=.agg #[_,_,_,_]);exact rfl)|(apply yX (v:=.string _);exact rfl)|(apply yX;exact rfl)|(apply zj7;exact rfl;(focus ((repeat (first|assumption|(apply Ext.zz;assumption;omega)|(apply Sto.zz;assumption;omega)|(apply Only.zz;assumption;omega)|(apply Lpo.zz;assumption;omega)|(apply Exa.zz;assumption;omega)|(apply ExtB.zz;assumption;omega;(simp only [List.mem_cons,List.not_mem_nil,or_false,not_false_eq_true]<;>omega))));done));intro hblk;first|(apply we;exact rfl;exact zX rfl hblk R2)|(apply we;exact rfl;exact ld1 rfl rfl hblk rfl)|(apply we;exact rfl;exact ld2 rfl rfl hblk rfl)|(apply we;exact rfl;exact ld3 rfl rfl hblk rfl)|(apply we;exact rfl;exact ld4 rfl rfl hblk rfl)|(apply we;exact rfl;exact ld5 rfl rfl hblk rfl)|(apply we;exact rfl;exact ld6 rfl rfl hblk rfl)|(apply we;exact rfl;exact ld10 rfl rfl hblk rfl)|(apply we;exact rfl;exact ld11 rfl rfl hblk rfl)))))(hf:uQ vs=true:=by exact rfl)(hw:s.w=[]:=by exact rfl):p:=go ⟨retF vs he hr ⟨hf,hw⟩ a⟩
theorem sF {X:CtxF}{c:Code}{t:TF}{h:HF}{n:Nat}{w:List Nat}{Q:Ex→SV→Prop}(e:α→List (Nat×Value))(I:α→HF→Nat→List Nat→Prop)(μ:α→Nat)(a:α)(j:I a h n w)(g:∀a t h n w,I a h n w→EC X c ⟨gk t (e a),h,n,w⟩ (qY e I μ a Q))(l:tJ t (e a):=by repeat (first|exact trivial|refine ⟨rfl,?_⟩))(hm:μ a<X.L:=by show _<LL;unfold LL;(try dsimp only);omega):EC X (.loop c) ⟨t,h,n,w⟩ Q:=ye e I μ a l j hm g
theorem sK {e:α→List (Nat×Value)}{I:α→HF→Nat→List Nat→Prop}{μ:α→Nat}{a:α}{Q:Ex→SV→Prop}{t:TF}{h:HF}{n:Nat}{w:List Nat}(g:α)(h3:I g h n w)(h1:μ g<μ a:=by (try dsimp only);omega)(h2:tJ t (e g):=by repeat (first|exact trivial|refine ⟨rfl,?_⟩)):qY e I μ a Q .normal ⟨t,h,n,w⟩:=goOn g h1 h2 h3
theorem Zi {p q:Prop}(k:q)(e:ZH q→p:=by intro k;refine zG ?_;refine sA ?_;exact k.go):p:=e ⟨k⟩
end
section
variable {cx:Nat}
theorem bj (k:Nat){x:Int}(a:IW h n sx ax lx cx x):VF (cal (k+1)) 95 [.agg #[jx sx,gS ax lx cx]] h n fun v=>∃b:Bool,v=jx b∧(b=true↔x=0):=by
 refine zO (fn:=Tryz.f95) R4 ?_;refine zG ?_;refine sB [jx sx,gS ax lx cx] ?_;intro c d e;refine zG ?_;by_cases q12:(lx:Int)=0
 ·refine zf ?_;exact ⟨_,rfl,by have:=a.2.zero;simp only [reduceCtorEq,true_iff,false_iff];omega⟩
 refine zf ?_;exact ⟨_,rfl,by have:=a.2.zero;simp only [reduceCtorEq,true_iff,false_iff];omega⟩
theorem yK (k:Nat){a:Bool}{x:Int}(b:IW h n a ax lx cx x):CX (cal (k+1)) 95 [.agg #[jx a,gS ax lx cx]] h n (BV (x=0)):=(bj k b).cx
theorem zpa (k:Nat){x:Int}(a:IW h n sx ax lx cx x):VF (cal (k+1)) 85 [.agg #[jx sx,gS ax lx cx]] h n fun v=>∃s:Int,v=gZ .i64 s∧(s= -1∧x<0∨s=0∧x=0∨s=1∧0<x):=by
 refine zO (fn:=Tryz.f85) R4 ?_;refine zG ?_;refine sB [jx sx,gS ax lx cx] ?_;intro b c d;refine zG ?_;by_cases q12:(lx:Int)=0
 ·refine zf ?_;exact ⟨_,rfl,by have:=a.2.zero;omega⟩
 refine zG ?_;cases sx
 ·refine zf ?_;exact ⟨_,rfl,by have:=a.ge;have:=a.2.zero;omega⟩
 refine zf ?_;exact ⟨_,rfl,by have:=a.lt;have:=a.2.zero;omega⟩
theorem zav (k:Nat){a:Bool}{x:Int}(b:IW h n a ax lx cx x):CX (cal (k+1)) 85 [.agg #[jx a,gS ax lx cx]] h n (SV3 x):=(zpa k b).cx
theorem tU (k:Nat){a:Bool}{x:Int}(f:IW h n a ax lx cx x):CX (cal (k+1)) 76 [.agg #[jx a,gS ax lx cx]] h n (BV (x=1)):=by
 obtain ⟨e,L,c,b,d⟩:=f;refine (zie k c b).cx.mono ?_;rintro _ _ _ rfl;refine ⟨_,rfl,?_⟩;rw [d,e,AA,BT,decide_eq_false_iff_not,decide_eq_true_iff];omega
theorem negX (k:Nat){x:Int}(a:IW h n sx ax lx cx x):CX (cal (k+2)) 143 [.agg #[jx sx,gS ax lx cx]] h n (IV (-x)):=by
 refine zw (fn:=Tryz.f143) R4 ?_;refine zG ?_;refine sB [jx sx,gS ax lx cx] ?_;intro o C H;refine sA ?_;intro p D I;refine zG ?_;cases sx
 ·refine zG ?_;refine sC (yJ _ (a.t zt).2 true) ?_;rintro _ q w ⟨d,b,l,f,rfl,i⟩ L J;refine sS [jx d,gS b l f] ?_;intro s F A;refine zq ?_;exact ⟨_,_,_,_,rfl,(i.t zt).as (by have:=a.ge;unfold sgZ;(try simp only [Dx,Df,if_true,if_false,A1]);omega)⟩
 refine zG ?_;refine sC (yJ _ (a.t zt).2 false) ?_;rintro _ u y ⟨e,c,m,g,rfl,j⟩ M K;refine sS [jx e,gS c m g] ?_;intro v G B;refine zq ?_;exact ⟨_,_,_,_,rfl,(j.t zt).as (by have:=a.lt;unfold sgZ;(try simp only [Dx,Df,if_true,if_false,A1]);omega)⟩
theorem addX (k:Nat){x:Int}{y:Int}(a:IW h n sx ax lx cx x)(b:IW h n sy ay ly cy y)(hx:x.natAbs<BW)(hy:y.natAbs<BW):CX (cal (k+4)) 130 [.agg #[jx sx,gS ax lx cx],.agg #[jx sy,gS ay ly cy]] h n (IV (x+y)):=by
 refine zw (fn:=Tryz.f130) R4 ?_;refine zG ?_;refine sB [jx sx,gS ax lx cx] ?_;intro ar cn d2;refine sB [jx sy,gS ay ly cy] ?_;intro au co d3;refine sA ?_;intro av cp d4;refine zG ?_;cases sx
 ·refine zG ?_;cases sy
  ·refine zG ?_;refine zl [0,1,0,4,0,16,60,127,255] rfl ?_;refine zH ?_;refine dC (zq4 _ (a.t zt).2 (b.t zt).2 zhh) ?_;rintro _ aw bw ⟨ab,bo,aj,rfl,L⟩ dn d5;refine dC (yJ _ L false) ?_;rintro _ az bx ⟨p,e,a3,C,rfl,M⟩ dp d6;refine dS [jx p,gS e a3 C] ?_;intro b0 cq cf;refine zq ?_;exact ⟨_,_,_,_,rfl,(M.t zt).as (by have:=a.ge;have:=b.ge;unfold sgZ;(try simp only [if_true,if_false,A1]);omega)⟩
  refine zG ?_;refine sC (zb1 _ (a.t zt).2 (b.t zt).2 zhh) ?_;rintro _ b1 bz ⟨d0,rfl,c⟩ dq d7;rcases c with ⟨rfl,c⟩|⟨rfl,c⟩|⟨rfl,c⟩
  ·refine zG ?_;refine zl [0,1,0,4,0,16,60,127,255] rfl ?_;refine zH ?_;refine dC (zam _ (b.t zt).2 (a.t zt).2 zhh zo) ?_;rintro _ b2 c0 ⟨ac,bp,ak,rfl,N⟩ dr d8;refine dC (yJ _ N true) ?_;rintro _ b3 c1 ⟨q,f,a4,D,rfl,O⟩ ds d9;refine dS [jx q,gS f a4 D] ?_;intro b4 cr cg;refine zq ?_;exact ⟨_,_,_,_,rfl,(O.t zt).as (by have:=a.ge;have:=b.lt;unfold sgZ;(try simp only [if_true,if_false,A1]);omega)⟩
  ·refine zG ?_;refine zl [0,1,0,4,0,16,60,127,255] rfl ?_;refine zH ?_;refine dC (zam _ (a.t zt).2 (b.t zt).2 zhh zo) ?_;rintro _ b5 c2 ⟨ad,bq,al,rfl,P⟩ dt da;refine dC (yJ _ P false) ?_;rintro _ b6 c3 ⟨s,g,a5,F,rfl,R⟩ du db;refine dS [jx s,gS g a5 F] ?_;intro b7 cs ch;refine zq ?_;exact ⟨_,_,_,_,rfl,(R.t zt).as (by have:=a.ge;have:=b.lt;unfold sgZ;(try simp only [if_true,if_false,A1]);omega)⟩
  refine zG ?_;refine zl [0,1,0,4,0,16,60,127,255] rfl ?_;refine zH ?_;refine dC (zam _ (a.t zt).2 (b.t zt).2 zhh zo) ?_;rintro _ b8 c4 ⟨ae,br,am,rfl,S⟩ dv dc;refine dC (yJ _ S false) ?_;rintro _ b9 c5 ⟨u,i,a6,G,rfl,T⟩ dw dd;refine dS [jx u,gS i a6 G] ?_;intro ba ct ci;refine zq ?_;exact ⟨_,_,_,_,rfl,(T.t zt).as (by have:=a.ge;have:=b.lt;unfold sgZ;(try simp only [if_true,if_false,A1]);omega)⟩
 refine zG ?_;cases sy
 ·refine zG ?_;refine sC (zb1 _ (a.t zt).2 (b.t zt).2 zhh) ?_;rintro _ bb c6 ⟨d1,rfl,d⟩ dx de;rcases d with ⟨rfl,d⟩|⟨rfl,d⟩|⟨rfl,d⟩
  ·refine zG ?_;refine zl [0,1,0,4,0,16,60,127,255] rfl ?_;refine zH ?_;refine dC (zam _ (b.t zt).2 (a.t zt).2 zhh zo) ?_;rintro _ bc c7 ⟨af,bs,an,rfl,U⟩ dy df;refine dC (yJ _ U false) ?_;rintro _ bd c8 ⟨v,j,a7,H,rfl,V⟩ dz dg;refine dS [jx v,gS j a7 H] ?_;intro be cu cj;refine zq ?_;exact ⟨_,_,_,_,rfl,(V.t zt).as (by have:=a.lt;have:=b.ge;unfold sgZ;(try simp only [if_true,if_false,A1]);omega)⟩
  ·refine zG ?_;refine zl [0,1,0,4,0,16,60,127,255] rfl ?_;refine zH ?_;refine dC (zam _ (a.t zt).2 (b.t zt).2 zhh zo) ?_;rintro _ bf c9 ⟨ag,bt,ao,rfl,W⟩ e0 dh;refine dC (yJ _ W true) ?_;rintro _ bg ca ⟨w,l,a8,I,rfl,Y⟩ e1 di;refine dS [jx w,gS l a8 I] ?_;intro bh cv ck;refine zq ?_;exact ⟨_,_,_,_,rfl,(Y.t zt).as (by have:=a.lt;have:=b.ge;unfold sgZ;(try simp only [if_true,if_false,A1]);omega)⟩
  refine zG ?_;refine zl [0,1,0,4,0,16,60,127,255] rfl ?_;refine zH ?_;refine dC (zam _ (a.t zt).2 (b.t zt).2 zhh zo) ?_;rintro _ bi cb ⟨ah,bu,ap,rfl,Z⟩ e2 dj;refine dC (yJ _ Z true) ?_;rintro _ bj cc ⟨A,m,a9,J,rfl,a0⟩ e3 dk;refine dS [jx A,gS m a9 J] ?_;intro bk cw cl;refine zq ?_;exact ⟨_,_,_,_,rfl,(a0.t zt).as (by have:=a.lt;have:=b.ge;unfold sgZ;(try simp only [if_true,if_false,A1]);omega)⟩
 refine zG ?_;refine zl [0,1,0,4,0,16,60,127,255] rfl ?_;refine zH ?_;refine dC (zq4 _ (a.t zt).2 (b.t zt).2 zhh) ?_;rintro _ bl cd ⟨ai,bv,aq,rfl,a1⟩ e4 dl;refine dC (yJ _ a1 true) ?_;rintro _ bm ce ⟨B,o,aa,K,rfl,a2⟩ e5 dm;refine dS [jx B,gS o aa K] ?_;intro bn cz cm;refine zq ?_;exact ⟨_,_,_,_,rfl,(a2.t zt).as (by have:=a.lt;have:=b.lt;unfold sgZ;(try simp only [if_true,if_false,A1]);omega)⟩
theorem ke {b:Bool}{x y:Int}(h:b=(decide (x<0) != decide (y<0))):sgZ b (x.natAbs*y.natAbs)=x*y:=by
 subst h;by_cases hx:x<0<;>by_cases hy:y<0
 ·rw [eH hx,eH hy];show ((x.natAbs*y.natAbs:Nat):Int)=_;rw [Br,CU zo,CU zo,Int.neg_mul_neg]
 ·rw [eH hx,cA hy];show -((x.natAbs*y.natAbs:Nat):Int)=_;rw [Br,CU zo,DN zo,Int.neg_mul,Dk]
 ·rw [cA hx,eH hy];show -((x.natAbs*y.natAbs:Nat):Int)=_;rw [Br,DN zo,CU zo,Int.mul_neg,Dk]
 rw [cA hx,cA hy];show ((x.natAbs*y.natAbs:Nat):Int)=_;rw [Br,DN zo,DN zo]
theorem kd {b:Bool}{x y:Int}(h:b=(decide (x<0) != decide (y<0))):sgZ b (x.natAbs/y.natAbs)=x.tdiv y:=by
 subst h;by_cases hx:x<0<;>by_cases hy:y<0
 ·obtain ⟨a,rfl⟩:∃a:Nat,x= -(a:Int):=⟨x.natAbs,zo⟩;obtain ⟨c,rfl⟩:∃c:Nat,y= -(c:Int):=⟨y.natAbs,zo⟩;rw [eH hx,eH hy,Int.neg_tdiv,Int.tdiv_neg,Dk,AM,AM];rfl
 ·obtain ⟨a,rfl⟩:∃a:Nat,x= -(a:Int):=⟨x.natAbs,zo⟩;obtain ⟨c,rfl⟩:∃c:Nat,y=(c:Int):=⟨y.natAbs,zo⟩;rw [eH hx,cA hy,Int.neg_tdiv,AM];rfl
 ·obtain ⟨a,rfl⟩:∃a:Nat,x=(a:Int):=⟨x.natAbs,zo⟩;obtain ⟨c,rfl⟩:∃c:Nat,y= -(c:Int):=⟨y.natAbs,zo⟩;rw [cA hx,eH hy,Int.tdiv_neg,AM];rfl
 obtain ⟨a,rfl⟩:∃a:Nat,x=(a:Int):=⟨x.natAbs,zo⟩;obtain ⟨c,rfl⟩:∃c:Nat,y=(c:Int):=⟨y.natAbs,zo⟩;rw [cA hx,cA hy];rfl
theorem mulX (k:Nat){x:Int}{y:Int}(a:IW h n sx ax lx cx x)(b:IW h n sy ay ly cy y)(hx:x.natAbs<BW)(hy:y.natAbs<BW):CX (cal (k+5)) 106 [.agg #[jx sx,gS ax lx cx],.agg #[jx sy,gS ay ly cy]] h n (IV (x*y)):=by
 refine zw (fn:=Tryz.f106) R4 ?_;refine zG ?_;refine sB [jx sx,gS ax lx cx] ?_;intro S ao az;refine sB [jx sy,gS ay ly cy] ?_;intro T ap b0;refine sA ?_;intro U aq b1;refine zG ?_;refine zl [0,1,0,4,15,0,32,0,128,480,1023,2047] rfl ?_;refine zH ?_;cases sx
 ·refine zH ?_;cases sy
  ·refine zH ?_;refine dC (zed _ (a.t zt).2 (b.t zt).2 zhh) ?_;rintro _ V ac ⟨J,a8,N,rfl,s⟩ ba b2;refine dC (yJ _ s false) ?_;rintro _ W ad ⟨g,c,F,m,rfl,u⟩ bb b3;refine dS [jx g,gS c F m] ?_;intro Y ar ak;refine zq ?_;exact ⟨_,_,_,_,rfl,(u.t zt).as (by have:=a.ge;have:=b.ge;exact ke (by simp<;>omega))⟩
  refine zH ?_;refine dC (zed _ (a.t zt).2 (b.t zt).2 zhh) ?_;rintro _ Z ae ⟨K,a9,O,rfl,v⟩ bc b4;refine dC (yJ _ v true) ?_;rintro _ a0 af ⟨i,d,G,o,rfl,w⟩ bd b5;refine dS [jx i,gS d G o] ?_;intro a1 au al;refine zq ?_;exact ⟨_,_,_,_,rfl,(w.t zt).as (by have:=a.ge;have:=b.lt;exact ke (by simp<;>omega))⟩
 refine zH ?_;cases sy
 ·refine zH ?_;refine dC (zed _ (a.t zt).2 (b.t zt).2 zhh) ?_;rintro _ a2 ag ⟨L,aa,P,rfl,A⟩ be b6;refine dC (yJ _ A true) ?_;rintro _ a3 ah ⟨j,e,H,p,rfl,B⟩ bf b7;refine dS [jx j,gS e H p] ?_;intro a4 av am;refine zq ?_;exact ⟨_,_,_,_,rfl,(B.t zt).as (by have:=a.lt;have:=b.ge;exact ke (by simp<;>omega))⟩
 refine zH ?_;refine dC (zed _ (a.t zt).2 (b.t zt).2 zhh) ?_;rintro _ a5 ai ⟨M,ab,R,rfl,C⟩ bg b8;refine dC (yJ _ C false) ?_;rintro _ a6 aj ⟨l,f,I,q,rfl,D⟩ bh b9;refine dS [jx l,gS f I q] ?_;intro a7 aw an;refine zq ?_;exact ⟨_,_,_,_,rfl,(D.t zt).as (by have:=a.lt;have:=b.lt;exact ke (by simp<;>omega))⟩
theorem zmr (k:Nat){x:Int}{y:Int}(o:IW h n sx ax lx cx x)(m:IW h n sy ay ly cy y)(hx:x.natAbs<BW)(hy:y.natAbs<BW)(b9:y≠0):CX (cal (k+7)) 148 [.agg #[jx sx,gS ax lx cx],.agg #[jx sy,gS ay ly cy]] h n fun v V n'=>∃b a l c g d e f,v=.tuple #[.agg #[jx b,gS a l c],.agg #[jx g,gS d e f]]∧IW V n' b a l c (x.tdiv y)∧∃r,IW V n' g d e f r:=by
 refine zw (fn:=Tryz.f148) R4 ?_;refine zG ?_;refine sB [jx sx,gS ax lx cx] ?_;intro ai bu c9;refine sB [jx sy,gS ay ly cy] ?_;intro aj bv ca;refine sA ?_;intro ak bw cb;refine sA ?_;intro al bx cc;refine zG ?_;by_cases q15:(ly:Int)=0
 ·refine zG ?_;refine sT #[jx false,gS none 0 0] ?_;refine sT #[jx false,gS none 0 0] ?_;refine sS [jx false,gS none 0 0] ?_;intro am bz bk;refine sS [jx false,gS none 0 0] ?_;intro an c0 bl;refine zG ?_;exact eN (m.2.zero.1 zo) zo
 refine zG ?_;refine sC (zqo _ (o.t zt).2 (m.t zt).2 zhh zo) ?_;rintro _ ao bb ⟨ad,ba,ae,af,ag,ah,rfl,i,j⟩ cm cd;refine zG ?_;refine zl [0,1,0,4,15,0,63,0,128,0,1023,2047,4095] rfl ?_;refine zH ?_;cases sx
 ·refine zH ?_;cases sy
  ·refine zH ?_;refine dC (yJ _ i false) ?_;rintro _ ap bc ⟨D,p,a5,M,rfl,W⟩ cn ce;refine zH ?_;refine dC (yJ _ (j.t zt) false) ?_;rintro _ aq bd ⟨F,q,a6,N,rfl,Y⟩ co cf;refine dS [jx D,gS p a5 M] ?_;intro ar c1 bm;refine dS [jx F,gS q a6 N] ?_;intro au c2 bn;refine zq ?_;exact ⟨_,_,_,_,_,_,_,_,rfl,(W.t zt).as (by have:=o.ge;have:=m.ge;exact kd (by simp<;>omega)),_,(Y.t zt)⟩
  refine zH ?_;refine dC (yJ _ i true) ?_;rintro _ av be ⟨G,s,a7,O,rfl,Z⟩ cp cg;refine zH ?_;refine dC (yJ _ (j.t zt) false) ?_;rintro _ aw bf ⟨H,u,a8,P,rfl,a0⟩ cq ch;refine dS [jx G,gS s a7 O] ?_;intro az c3 bo;refine dS [jx H,gS u a8 P] ?_;intro b0 c4 bp;refine zq ?_;exact ⟨_,_,_,_,_,_,_,_,rfl,(Z.t zt).as (by have:=o.ge;have:=m.lt;exact kd (by simp<;>omega)),_,(a0.t zt)⟩
 refine zH ?_;cases sy
 ·refine zH ?_;refine dC (yJ _ i true) ?_;rintro _ b1 bg ⟨I,w,a9,R,rfl,a1⟩ cr ci;refine zH ?_;refine dC (yJ _ (j.t zt) true) ?_;rintro _ b2 bh ⟨J,A,aa,S,rfl,a2⟩ cs cj;refine dS [jx I,gS w a9 R] ?_;intro b3 c5 bq;refine dS [jx J,gS A aa S] ?_;intro b4 c6 br;refine zq ?_;exact ⟨_,_,_,_,_,_,_,_,rfl,(a1.t zt).as (by have:=o.lt;have:=m.ge;exact kd (by simp<;>omega)),_,(a2.t zt)⟩
 refine zH ?_;refine dC (yJ _ i false) ?_;rintro _ b5 bi ⟨K,B,ab,T,rfl,a3⟩ ct ck;refine zH ?_;refine dC (yJ _ (j.t zt) true) ?_;rintro _ b6 bj ⟨L,C,ac,U,rfl,a4⟩ cu cl;refine dS [jx K,gS B ab T] ?_;intro b7 c7 bs;refine dS [jx L,gS C ac U] ?_;intro b8 c8 bt;refine zq ?_;exact ⟨_,_,_,_,_,_,_,_,rfl,(a3.t zt).as (by have:=o.lt;have:=m.lt;exact kd (by simp<;>omega)),_,(a4.t zt)⟩
theorem quoX (k:Nat){x:Int}{y:Int}(p:IW h n sx ax lx cx x)(q:IW h n sy ay ly cy y)(hx:x.natAbs<BW)(s:y.natAbs<BW)(m:y≠0):CX (cal (k+8)) 96 [.agg #[jx sx,gS ax lx cx],.agg #[jx sy,gS ay ly cy]] h n (IV (x.tdiv y)):=by
 refine zw (fn:=Tryz.f96) R4 ?_;refine zG ?_;refine sB [jx sx,gS ax lx cx] ?_;intro v S a3;refine sB [jx sy,gS ay ly cy] ?_;intro w T a4;refine sA ?_;intro A U a5;refine zG ?_;refine sC (tU _ (q.t zt)) ?_;rintro _ B L ⟨u,rfl,f⟩ aa a6;rcases bvs f with ⟨rfl,e⟩|⟨rfl,e⟩
 ·refine zG ?_;refine sC (zmr _ (p.t zt) (q.t zt) hx s m) ?_;rintro _ C M ⟨b,a,d,c,l,g,i,j,rfl,o,a2,K⟩ ab a7;refine Zi ?_;intro D V a8;refine sA ?_;intro F W a9;refine sS [jx b,gS a d c] ?_;intro G Y N;refine sS [jx l,gS g i j] ?_;intro H Z O;refine zG ?_;refine sS [jx b,gS a d c] ?_;intro I a0 P;refine zq ?_;exact ⟨_,_,_,_,rfl,(o.t zt)⟩
 refine zG ?_;refine sS [jx sx,gS ax lx cx] ?_;intro J a1 R;refine zq ?_;exact ⟨_,_,_,_,rfl,(p.t zt).as (by rw [e,C7])⟩
theorem gcdX (k:Nat){x:Int}{y:Int}(g:GG h n)(e:IW h n sx ax lx cx x)(f:IW h n sy ay ly cy y)(hx:x.natAbs<BW)(hy:y.natAbs<BW):CX (cal (k+8)) 75 [.agg #[jx sx,gS ax lx cx],.agg #[jx sy,gS ay ly cy]] h n (IV ((rp x.natAbs y.natAbs:Nat):Int)):=by
 refine zw (fn:=Tryz.f75) R4 ?_;refine zG ?_;refine sB [jx sx,gS ax lx cx] ?_;intro i s A;refine sB [jx sy,gS ay ly cy] ?_;intro j u B;refine sA ?_;intro l v C;refine zG ?_;refine sC (zqe _ (g.t zt) (e.t zt).2 (f.t zt).2 zhh) ?_;rintro _ m p ⟨a,c,b,rfl,d⟩ F D;refine sT #[jx false,gS a c b] ?_;refine sS [jx false,gS a c b] ?_;intro o w q;refine zq ?_;exact ⟨_,_,_,_,rfl,by rw [cA];exact FB.2 (Int.natCast_nonneg _),(d.t zt)⟩
theorem zf3 (k:Nat){x:Int}{y:Int}(a:IW h n sx ax lx cx x)(b:IW h n sy ay ly cy y)(hx:x.natAbs<BW)(hy:y.natAbs<BW):VF (cal (k+4)) 128 [.agg #[jx sx,gS ax lx cx],.agg #[jx sy,gS ay ly cy]] h n fun v=>∃s:Int,v=gZ .i64 s∧(s= -1∧x<y∨s=0∧x=y∨s=1∧y<x):=by
 refine zO (fn:=Tryz.f128) R4 ?_;refine zG ?_;refine sB [jx sx,gS ax lx cx] ?_;intro e m u;refine sB [jx sy,gS ay ly cy] ?_;intro f o w;refine zG ?_;cases sx
 ·refine zG ?_;cases sy
  ·refine zG ?_;refine sC (zb1 _ (a.t zt).2 (b.t zt).2 zhh) ?_;rintro _ g j ⟨p,rfl,c⟩ C A;rcases c with ⟨rfl,c⟩|⟨rfl,c⟩|⟨rfl,c⟩
   ·refine zf ?_;exact ⟨_,rfl,by have:=a.ge;have:=b.ge;omega⟩
   ·refine zf ?_;exact ⟨_,rfl,by have:=a.ge;have:=b.ge;omega⟩
   refine zf ?_;exact ⟨_,rfl,by have:=a.ge;have:=b.ge;omega⟩
  refine zf ?_;exact ⟨_,rfl,by have:=a.ge;have:=b.lt;omega⟩
 refine zG ?_;cases sy
 ·refine zf ?_;exact ⟨_,rfl,by have:=a.lt;have:=b.ge;omega⟩
 refine zG ?_;refine sC (zb1 _ (b.t zt).2 (a.t zt).2 zhh) ?_;rintro _ i l ⟨q,rfl,d⟩ D B;rcases d with ⟨rfl,d⟩|⟨rfl,d⟩|⟨rfl,d⟩
 ·refine zf ?_;exact ⟨_,rfl,by have:=a.lt;have:=b.lt;omega⟩
 ·refine zf ?_;exact ⟨_,rfl,by have:=a.lt;have:=b.lt;omega⟩
 refine zf ?_;exact ⟨_,rfl,by have:=a.lt;have:=b.lt;omega⟩
theorem znm (k:Nat){x:Int}{y:Int}(a:IW h n sx ax lx cx x)(c:IW h n sy ay ly cy y)(hx:x.natAbs<BW)(hy:y.natAbs<BW):VF (cal (k+4)) 146 [.agg #[jx sx,gS ax lx cx],.agg #[jx sy,gS ay ly cy]] h n fun v=>∃b:Bool,v=jx b∧(b=true↔x=y):=by
 refine zO (fn:=Tryz.f146) R4 ?_;refine zG ?_;refine sB [jx sx,gS ax lx cx] ?_;intro f o u;refine sB [jx sy,gS ay ly cy] ?_;intro g p w;refine zG ?_;cases sx
 ·refine zG ?_;cases sy
  ·refine zG ?_;refine sC (zb1 _ (a.t zt).2 (c.t zt).2 zhh) ?_;rintro _ i l ⟨q,rfl,d⟩ C A;rcases d with ⟨rfl,d⟩|⟨rfl,d⟩|⟨rfl,d⟩
   ·refine zf ?_;exact ⟨_,rfl,by have:=a.ge;have:=c.ge;simp only [reduceCtorEq,true_iff,false_iff];omega⟩
   ·refine zf ?_;exact ⟨_,rfl,by have:=a.ge;have:=c.ge;simp only [reduceCtorEq,true_iff,false_iff];omega⟩
   refine zf ?_;exact ⟨_,rfl,by have:=a.ge;have:=c.ge;simp only [reduceCtorEq,true_iff,false_iff];omega⟩
  refine zf ?_;exact ⟨_,rfl,by have:=a.ge;have:=c.lt;simp only [reduceCtorEq,true_iff,false_iff];omega⟩
 refine zG ?_;cases sy
 ·refine zf ?_;exact ⟨_,rfl,by have:=a.lt;have:=c.ge;simp only [reduceCtorEq,true_iff,false_iff];omega⟩
 refine zG ?_;refine sC (zb1 _ (a.t zt).2 (c.t zt).2 zhh) ?_;rintro _ j m ⟨s,rfl,e⟩ D B;rcases e with ⟨rfl,e⟩|⟨rfl,e⟩|⟨rfl,e⟩
 ·refine zf ?_;exact ⟨_,rfl,by have:=a.lt;have:=c.lt;simp only [reduceCtorEq,true_iff,false_iff];omega⟩
 ·refine zf ?_;exact ⟨_,rfl,by have:=a.lt;have:=c.lt;simp only [reduceCtorEq,true_iff,false_iff];omega⟩
 refine zf ?_;exact ⟨_,rfl,by have:=a.lt;have:=c.lt;simp only [reduceCtorEq,true_iff,false_iff];omega⟩
end
section
variable {l:Nat}
def denZ (q:Rat):Int:=if q.den=1 then 0 else (q.den:Int)
theorem yr:denZ q=0↔q.den=1:=by
 unfold denZ;have:=q.den_pos;split<;>omega
theorem wq (h:¬denZ q=0):denZ q=(q.den:Int):=by
 unfold denZ at*
 split
 ·rename_i h1;rw [eS h1] at h;exact eN rfl h
 rfl
theorem ur (x y:Rat):(x+y).num=(x.num*y.den+y.num*x.den)/((rp (x.num*y.den+y.num*x.den).natAbs (x.den*y.den):Nat):Int):=by
 rw [Rat.add_def,DU]
theorem ut (x y:Rat):(x+y).den=(x.den*y.den)/rp (x.num*y.den+y.num*x.den).natAbs (x.den*y.den):=by
 rw [Rat.add_def,DU]
theorem sf (x y:Rat):(x*y).num=(x.num*y.num)/((rp (x.num*y.num).natAbs (x.den*y.den):Nat):Int):=by
 rw [Rat.mul_def,DU]
theorem si (x y:Rat):(x*y).den=(x.den*y.den)/rp (x.num*y.num).natAbs (x.den*y.den):=by
 rw [Rat.mul_def,DU]
theorem sG (a b:Int)(m:Nat):rp (a*m+b).natAbs m=rp b.natAbs m:=by
 have c:(Hy (a*m+b) m)=Hy b m:=by
  rw [Int.add_comm,Int.gcd_add_mul_right_left]
 simpa [Hy] using c
theorem zlg {x y:Rat}(hx:denZ x=0)(c:denZ y=0):(x+y).num=x.num+y.num∧denZ (x+y)=0:=by
 rw [yr] at*
 have a:=ur x y;have b:=ut x y;rw [hx,c] at a b;simp at a b;exact ⟨a,b⟩
theorem zgp {x y:Rat}(hx:denZ x=0)(c:¬denZ y=0):(x+y).num=x.num*denZ y+y.num∧denZ (x+y)=denZ y:=by
 have g:=wq c;rw [yr] at hx c;have a:=ur x y;have b:=ut x y;have f:rp (x.num*(y.den:Int)+y.num).natAbs y.den=1:=(sG x.num y.num y.den).trans y.reduced;rw [hx] at a b;simp only [BR] at a b;have e:((1:Nat):Int)=1:=rfl;rw [e,Hj,f] at a;rw [e,Hj,f,Nat.div_one] at b;rw [a,g];refine ⟨by rw [e,Int.ediv_one],?_⟩;unfold denZ;rw [b,eP c]
theorem zlf {x y:Rat}(hx:¬denZ x=0)(a:denZ y=0):(x+y).num=y.num*denZ x+x.num∧denZ (x+y)=denZ x:=by
 rw [Rat.add_comm];exact zgp a hx
structure AddS (x y:Rat)(d l r:Nat)(N:Int)(s:Nat):Prop where
 hd:d=rp x.den y.den
 hl:y.den=d*l
 hr:x.den=d*r
 hN:N=x.num*l+y.num*r
 hs:s=rp N.natAbs d
theorem AddS.cop {x y:Rat}{N:Int}{s:Nat}(a:AddS x y d l r N s):rp N.natAbs (r*l)=1:=by
 have e:0<d:=by rw [a.hd];exact CH _ x.den_pos
 have b:C6 l r:=by
  have c:rp x.den y.den=d*rp r l:=by rw [a.hr,a.hl,Et]
  rw [←a.hd] at c;have:d*1=d*rp r l:=zo;have:=Nat.eq_of_mul_eq_mul_left e this;rw [Nat.coprime_iff_gcd_eq_one,Cp];exact this.symm
 have f:C6 x.num.natAbs r:=CE ⟨d,by rw [a.hr,pe]⟩ x.reduced;have g:C6 y.num.natAbs l:=CE ⟨d,by rw [a.hl,pe]⟩ y.reduced;have c:rp N.natAbs r=1:=by
  have:rp (y.num*(r:Int)+x.num*(l:Int)).natAbs r=1:=by
   rw [sG,AF,qe];exact EJ f b
  rw [a.hN,Int.add_comm];exact this
 have i:rp N.natAbs l=1:=by
  have:rp (x.num*(l:Int)+y.num*(r:Int)).natAbs l=1:=by
   rw [sG,AF,qe];exact EJ g b.symm
  rw [a.hN];exact this
 exact Eo c i
theorem AddS.res {x y:Rat}{N:Int}{s:Nat}(a:AddS x y d l r N s):(x+y).num=N.tdiv (s:Int)∧(x+y).den=r*(y.den/s):=by
 have b:0<d:=by rw [a.hd];exact CH _ x.den_pos
 have c:0<s:=by rw [a.hs];exact A6 _ b
 have u:=a.cop;have j:=ur x y;have m:=ut x y;have f:x.num*(y.den:Int)+y.num*(x.den:Int)=(d:Int)*N:=by
  rw [a.hl,a.hr,a.hN];simp only [Br];grind
 have g:x.den*y.den=d*(r*l*d):=by rw [a.hl,a.hr];grind
 have i:rp ((d:Int)*N).natAbs (d*(r*l*d))=d*s:=by
  rw [AF,qe,Et,DT d (Nat.Coprime.symm u),←a.hs]
 rw [f,g,i] at j;rw [f,g,i] at m;have o:(s:Int)∣N:=by
  have:s∣N.natAbs:=by rw [a.hs];exact B5 _ _
  exact CA.2 this
 have p:s∣d:=by rw [a.hs];exact B9 _ _
 refine ⟨?_,?_⟩
 ·rw [j,Br,Int.mul_ediv_mul_of_pos _ _ zo,Di o]
 rw [m,Nat.mul_div_mul_left _ _ b];obtain ⟨e,v⟩:=p;rw [a.hl,v];rw [show r*l*(s*e)=s*(r*(l*e)) from by grind,BX _ c,show s*e*l=s*(l*e) from by grind,BX _ c]
theorem lK (a b:Nat):(a:Int).tdiv (b:Int)=((a/b:Nat):Int):=rfl
theorem AddS.mk' {x y:Rat}(hx:¬denZ x=0)(b:¬denZ y=0):∃d l r N s,AddS x y d l r N s∧((rp (denZ x).natAbs (denZ y).natAbs:Nat):Int)=d∧(denZ y).tdiv ((rp (denZ x).natAbs (denZ y).natAbs:Nat):Int)=l∧(denZ x).tdiv ((rp (denZ x).natAbs (denZ y).natAbs:Nat):Int)=r∧x.num*((denZ y).tdiv ((rp (denZ x).natAbs (denZ y).natAbs:Nat):Int))+y.num*((denZ x).tdiv ((rp (denZ x).natAbs (denZ y).natAbs:Nat):Int))=N∧∀M:Int,M=N→((rp M.natAbs (((rp (denZ x).natAbs (denZ y).natAbs:Nat):Int)).natAbs:Nat):Int)=(s:Nat):=by
 rw [wq hx,wq b];simp only [qe,lK];have c:0<rp x.den y.den:=CH _ x.den_pos;refine ⟨rp x.den y.den,y.den/rp x.den y.den,x.den/rp x.den y.den,_,rp (x.num*((y.den/rp x.den y.den:Nat):Int)+y.num*((x.den/rp x.den y.den:Nat):Int)).natAbs (rp x.den y.den),⟨rfl,?_,?_,rfl,rfl⟩,rfl,rfl,rfl,rfl,?_⟩
 ·rw [CK (B9 _ _)]
 ·rw [CK (B5 _ _)]
 intro M a;rw [a]
theorem zm2 (x y:Rat):(x*y).num=(x.num/((rp x.num.natAbs y.den:Nat):Int))*(y.num/((rp y.num.natAbs x.den:Nat):Int))∧(x*y).den=(x.den/rp y.num.natAbs x.den)*(y.den/rp x.num.natAbs y.den):=by
 have w:=sf x y;have A:=si x y;have O:rp (x.num*y.num).natAbs (x.den*y.den)=rp x.num.natAbs y.den*rp y.num.natAbs x.den:=by
  rw [AF];by_cases hx:x.num=0
  ·have B:x.den=1:=by have:=x.reduced;rw [hx] at this;simpa using this
   rw [hx,B];simp
  by_cases hy:y.num=0
  ·have C:y.den=1:=by have:=y.reduced;rw [hy] at this;simpa using this
   rw [hy,C];simp
  have f:0<rp x.num.natAbs y.den:=A6 _ y.den_pos;have g:0<rp y.num.natAbs x.den:=A6 _ x.den_pos;have I:=E0 f;have J:=E0 g;have D:=CK (B5 x.num.natAbs y.den);have F:=CK (B9 x.num.natAbs y.den);have G:=CK (B5 y.num.natAbs x.den);have H:=CK (B9 y.num.natAbs x.den);have i:=x.reduced;have j:=y.reduced;generalize rp x.num.natAbs y.den=g1 at*
  generalize rp y.num.natAbs x.den=g2 at*
  generalize x.num.natAbs/g1=a at*
  generalize y.den/g1=b at*
  generalize y.num.natAbs/g2=c at*
  generalize x.den/g2=e at*
  rw [←D,←F,←G,←H];rw [←D,←H] at i;rw [←G,←F] at j;have p:C6 a e:=ES ⟨g1,pe _ _⟩ (CE ⟨g2,pe _ _⟩ i);have s:C6 c b:=ES ⟨g2,pe _ _⟩ (CE ⟨g1,pe _ _⟩ j);have:C6 (a*c) (e*b):=EJ (Eo p I) (Eo J s);rw [show g1*a*(g2*c)=(g1*g2)*(a*c) from by grind,show g2*e*(g1*b)=(g1*g2)*(e*b) from by grind,Et,this,AH]
 rw [O] at w A;have K:((rp x.num.natAbs y.den:Nat):Int)∣x.num:=CA.2 (B5 _ _);have L:((rp y.num.natAbs x.den:Nat):Int)∣y.num:=CA.2 (B5 _ _);have M:rp y.num.natAbs x.den∣x.den:=B9 _ _;have N:rp x.num.natAbs y.den∣y.den:=B9 _ _;refine ⟨?_,?_⟩
 ·rw [w,Br];obtain ⟨u,m⟩:=K;obtain ⟨v,o⟩:=L;have f:0<rp x.num.natAbs y.den:=A6 _ y.den_pos;have g:0<rp y.num.natAbs x.den:=A6 _ x.den_pos;generalize rp x.num.natAbs y.den=g1 at*
  generalize rp y.num.natAbs x.den=g2 at*
  rw [m,o,D5 _ zo,D5 _ zo,show (g1:Int)*u*(g2*v)=(g1*g2)*(u*v) from by grind,D5];exact Int.mul_ne_zero zo zo
 rw [A];obtain ⟨u,m⟩:=M;obtain ⟨v,o⟩:=N;have f:0<rp x.num.natAbs y.den:=A6 _ y.den_pos;have g:0<rp y.num.natAbs x.den:=A6 _ x.den_pos;generalize rp x.num.natAbs y.den=g1 at*
 generalize rp y.num.natAbs x.den=g2 at*
 rw [m,o,BX _ g,BX _ f,show g2*u*(g1*v)=(g1*g2)*(u*v) from by grind,BX _ (CP f g)]
theorem jc (x y:Rat):(x<y↔x.num*y.den<y.num*x.den)∧(x=y↔x.num*y.den=y.num*x.den)∧(y<x↔y.num*x.den<x.num*y.den):=by
 refine ⟨Gy ..,?_,Gy ..⟩;constructor
 ·rintro rfl;rfl
 intro h;have a:¬x<y:=by rw [Gy];omega
 have b:¬y<x:=by rw [Gy];omega
 exact Rat.le_antisymm (CV.1 b) (CV.1 a)
end
section
variable {a cx:Nat}
theorem vh {x y:Int}(h:x.natAbs<m):(x.tdiv y).natAbs<m:=by
 rw [Int.natAbs_tdiv];exact Aj (A3 _ _) h
theorem sw {x y:Int}(hx:x.natAbs<2^a)(c:y.natAbs<2^b):(x*y).natAbs<2^(a+b):=by
 rw [AF,Bf];exact Dh hx c
theorem zec {x y:Int}(hx:x.natAbs<2^a)(c:y.natAbs<2^b)(h:a+b≤2496):(x*y).natAbs<BW:=yU (sw hx c) h
theorem dJ {x y:Int}(hx:x.natAbs<2^m)(c:y.natAbs<2^m):(x+y).natAbs<2^(m+1):=by
 rw [Ac];omega
theorem zcu {x y u v:Int}(hx:x.natAbs<2^a)(e:y.natAbs<2^b)(c:u.natAbs<2^b)(d:v.natAbs<2^a)(h:a+b+1≤2496):(x*y+u*v).natAbs<BW:=
 yU (dJ (sw hx e) (by rw [Bj a b];exact sw c d)) h
theorem zl3 {x y u:Int}(hx:x.natAbs<2^a)(d:y.natAbs<2^b)(c:u.natAbs<2^b)(h:a+b+1≤2496):(x*y+u).natAbs<BW:=
 yU (dJ (sw hx d) (Af c (sN zd zo))) h
theorem zkt {x y:Int}(hx:x.natAbs<m)(h0:¬x=0):((rp x.natAbs y.natAbs:Nat):Int).natAbs<m:=by
 rw [qe];exact Aj (ER _ zo) hx
theorem zsf {x y:Int}(c:y.natAbs<m)(h0:¬y=0):((rp x.natAbs y.natAbs:Nat):Int).natAbs<m:=by
 rw [qe];exact Aj (Nat.gcd_le_right _ zo) c
theorem zqd {x y:Int}(h:¬x=0):((rp x.natAbs y.natAbs:Nat):Int)≠0:=by
 have:=CH (n:=y.natAbs) (m:=x.natAbs) zo;omega
theorem zsg {x y:Int}(h:¬y=0):((rp x.natAbs y.natAbs:Nat):Int)≠0:=by
 have:=A6 (m:=x.natAbs) (n:=y.natAbs) zo;omega
theorem zpz:(1:Int).natAbs<BW:=yU (e:=1) zd zd
theorem szB {x:Int}(h:x.natAbs<BW:=by first|assumption|exact vh ‹_› |exact zec ‹_› ‹_› zo|exact zec ‹_› (vh ‹_›) zo|exact zec (vh ‹_›) (vh ‹_›) zo|exact zcu ‹_› (vh ‹_›) ‹_› (vh ‹_›) zo|exact zcu ‹_› ‹_› ‹_› ‹_› zo|exact zl3 ‹_› ‹_› ‹_› zo|exact zkt ‹_› ‹_› |exact zkt (zcu ‹_› (vh ‹_›) ‹_› (vh ‹_›) zo) ‹_› |exact zsf ‹_› ‹_› |exact zpz):x.natAbs<BW:=h
theorem szN {x:Int}(h:x≠0:=by first|assumption|exact zqd ‹_› |exact zsg ‹_› |omega):x≠0:=h
def Sz (m:Nat)(q:Rat):Prop:=q.num.natAbs<2^m∧q.den<2^m
theorem Sz.z (h:Sz m q):(denZ q).natAbs<2^m:=by
 unfold denZ;split
 ·exact D8 m
 rw [qe];exact h.2
theorem Sz.mono (h:Sz m q)(hm:m≤m'):Sz m' q:=⟨Af h.1 (sN zd hm),Af h.2 (sN zd hm)⟩
theorem na {x:Int}{g:Nat}(h:x.natAbs<m):(x/(g:Int)).natAbs<m:=by
 refine Aj ?_ h;exact Int.natAbs_ediv_le_natAbs _ _
theorem Sz.add {x y:Rat}(hx:Sz a x)(c:Sz b y):Sz (a+b+1) (x+y):=by
 refine ⟨?_,?_⟩
 ·rw [ur];refine na (dJ (sw hx.1 (by rw [qe];exact c.2)) ?_);rw [Bj a b];exact sw c.1 (by rw [qe];exact hx.2)
 rw [ut];refine Aj (A3 _ _) (Af (Dh hx.2 c.2) ?_);rw [←Bf];exact sN zd zo
theorem Sz.mul {x y:Rat}(hx:Sz a x)(c:Sz b y):Sz (a+b) (x*y):=by
 refine ⟨?_,?_⟩
 ·rw [sf];exact na (sw hx.1 c.1)
 rw [si];refine Aj (A3 _ _) ?_;rw [Bf];exact Dh hx.2 c.2
theorem Sz.neg {x:Rat}(hx:Sz a x):Sz a (-x):=⟨by rw [Rat.neg_num,AM];exact hx.1,by rw [Rat.neg_den];exact hx.2⟩
theorem Sz.zero (a:Nat)(h:1≤a):Sz a 0:=⟨D8 a,Af (by decide:(1:Nat)<2^1) (sN zd h)⟩
def QV (q:Rat)(v:Value)(h:HF)(n:Nat):Prop:=∃b a l c d e f g,v=.agg #[jx b,gS a l c,jx d,gS e f g]∧IW h n b a l c q.num∧IW h n d e f g (denZ q)
theorem QV.zero (h:HF)(n:Nat):QV 0 (.agg #[jx false,gS none 0 0,jx false,gS none 0 0]) h n:=⟨_,_,_,_,_,_,_,_,rfl,IW.zero h n,IW.zero h n⟩
theorem rO (k:Nat){d:Bool}{x:Int}{c:Bool}{y:Int}(f:IW h n d ax lx cx x)(g:IW h n c ay ly cy y)(hx:x.natAbs<BW)(e:y.natAbs<BW):CX (cal (k+4)) 128 [.agg #[jx d,gS ax lx cx],.agg #[jx c,gS ay ly cy]] h n fun v _ _=>∃s:Int,v=gZ .i64 s∧(s= -1∧x<y∨s=0∧x=y∨s=1∧y<x):=(zf3 k f g hx e).cx
theorem zkw (k:Nat)(h:HF)(n:Nat):CX (cal (k+1)) 138 [gZ .u64 1] h n (WV 1):=zqg k h n (w:=1) zd
theorem zea (k:Nat)(h:HF)(n:Nat):CX (cal (k+2)) 81 [gZ .i64 1] h n (IV 1):=by
 refine zw (fn:=Tryz.f81) R4 ?_;refine Zi ?_;intro g p u;refine zG ?_;refine wm R6 (ik:=.u64) (a:=1) rfl ?_;refine sC (zkw _ _ _) ?_;rintro _ i l ⟨c,e,d,rfl,f⟩ w v;refine sT #[jx false,gS c e d] ?_;refine sS [jx false,gS c e d] ?_;intro j s o;refine zq ?_;exact ⟨_,_,_,_,rfl,rfl,(f.t zt)⟩
theorem zic (k:Nat){x:Rat}(f:IW h n sx ax lx cx x.num)(w:IW h n dx ex fx gx (denZ x)):VF (cal (k+2)) 99 [.agg #[jx sx,gS ax lx cx,jx dx,gS ex fx gx]] h n fun v=>∃b:Bool,v=jx b∧(b=true↔x=0):=by
 refine zO (fn:=Tryz.f99) R4 ?_;refine zG ?_;refine sB [jx sx,gS ax lx cx,jx dx,gS ex fx gx] ?_;intro i o p;refine zG ?_;refine sC (yK _ (f.t zt)) ?_;rintro _ j l ⟨g,rfl,d⟩ u s;rcases bvs d with ⟨rfl,c⟩|⟨rfl,c⟩
 ·refine zf ?_;exact zno fun e=>eN (Cr.2 e) c
 refine zf ?_;exact zye (Cr.1 c)
theorem zpb (k:Nat){x:Rat}(d:IW h n sx ax lx cx x.num)(u:IW h n dx ex fx gx (denZ x)):VF (cal (k+2)) 86 [.agg #[jx sx,gS ax lx cx,jx dx,gS ex fx gx]] h n fun v=>∃s:Int,v=gZ .i64 s∧(s= -1∧x.num<0∨s=0∧x.num=0∨s=1∧0<x.num):=by
 refine zO (fn:=Tryz.f86) R4 ?_;refine zG ?_;refine sB [jx sx,gS ax lx cx,jx dx,gS ex fx gx] ?_;intro e i l;refine zG ?_;refine sC (zav _ (d.t zt)) ?_;rintro _ f g ⟨j,rfl,c⟩ p o;rcases c with ⟨rfl,c⟩|⟨rfl,c⟩|⟨rfl,c⟩
 ·refine zf ?_;exact ⟨_,rfl,zo⟩
 ·refine zf ?_;exact ⟨_,rfl,zo⟩
 refine zf ?_;exact ⟨_,rfl,zo⟩
theorem kD (k:Nat){x:Rat}(c:IW h n sx ax lx cx x.num)(d:IW h n dx ex fx gx (denZ x)):CX (cal (k+2)) 99 [.agg #[jx sx,gS ax lx cx,jx dx,gS ex fx gx]] h n (BV (x=0)):=(zic k c d).cx
theorem fD (k:Nat){x:Rat}(c:IW h n sx ax lx cx x.num)(d:IW h n dx ex fx gx (denZ x)):CX (cal (k+2)) 86 [.agg #[jx sx,gS ax lx cx,jx dx,gS ex fx gx]] h n (SV3 x.num):=(zpb k c d).cx
theorem denQ (k:Nat){x:Rat}(P:IW h n sx ax lx cx x.num)(j:IW h n dx ex fx gx (denZ x)):CX (cal (k+3)) 108 [.agg #[jx sx,gS ax lx cx,jx dx,gS ex fx gx]] h n (IV (x.den:Int)):=by
 refine zw (fn:=Tryz.f108) R4 ?_;refine zG ?_;refine sB [jx sx,gS ax lx cx,jx dx,gS ex fx gx] ?_;intro p F J;refine sA ?_;intro s G K;refine zG ?_;refine sC (yK _ (j.t zt)) ?_;rintro _ u A ⟨o,rfl,d⟩ N L;rcases bvs d with ⟨rfl,c⟩|⟨rfl,c⟩
 ·refine zG ?_;refine sS [jx dx,gS ex fx gx] ?_;intro v H C;refine zq ?_;exact ⟨_,_,_,_,rfl,(j.t zt).as (wq c)⟩
 refine zG ?_;refine sC (zea _ _ _) ?_;rintro _ w B ⟨f,e,l,g,rfl,i⟩ O M;refine sS [jx f,gS e l g] ?_;intro y I D;refine zq ?_;exact ⟨_,_,_,_,rfl,(i.t zt).as (by rw [yr.1 c];rfl)⟩
theorem vE (k:Nat){x:Int}{y:Int}(f:IW h n sx ax lx cx x)(g:IW h n sy ay ly cy y)(e:q.num=x)(d:(q.den:Int)=y):CX (cal (k+2)) 109 [.agg #[jx sx,gS ax lx cx],.agg #[jx sy,gS ay ly cy]] h n (QV q):=by
 refine zw (fn:=Tryz.f109) R4 ?_;refine zG ?_;refine sB [jx sx,gS ax lx cx] ?_;intro l C I;refine sB [jx sy,gS ay ly cy] ?_;intro o D J;refine sA ?_;intro p F K;refine zG ?_;refine sC (tU _ (g.t zt)) ?_;rintro _ s w ⟨j,rfl,c⟩ M L;rcases bvs c with ⟨rfl,i⟩|⟨rfl,i⟩
 ·refine zG ?_;refine sT #[jx sx,gS ax lx cx,jx sy,gS ay ly cy] ?_;refine sS [jx sx,gS ax lx cx,jx sy,gS ay ly cy] ?_;intro u G A;refine zq ?_;exact ⟨_,_,_,_,_,_,_,_,rfl,(f.t zt).as (e.symm),(g.t zt).as (((wq (mt yr.1 (by have:=d;omega))).trans d).symm)⟩
 refine zG ?_;refine sT #[jx sx,gS ax lx cx,jx false,gS none 0 0] ?_;refine sS [jx sx,gS ax lx cx,jx false,gS none 0 0] ?_;intro v H B;refine zq ?_;exact ⟨_,_,_,_,_,_,_,_,rfl,(f.t zt).as (e.symm),(IW.zero _ _).as ((yr.2 (by have:=d;omega)).symm)⟩
theorem je (k:Nat){x:Int}{y:Int}(g:GG h n)(s:IW h n sx ax lx cx x)(j:IW h n sy ay ly cy y)(hx:x.natAbs<BW)(hy:y.natAbs<BW)(a6:¬y=0):CX (cal (k+9)) 107 [.agg #[jx sx,gS ax lx cx],.agg #[jx sy,gS ay ly cy]] h n fun v I O=>∃b a l c g d e f,v=.tuple #[.agg #[jx b,gS a l c],.agg #[jx g,gS d e f]]∧IW I O b a l c (x.tdiv ((rp x.natAbs y.natAbs:Nat):Int))∧IW I O g d e f (y.tdiv ((rp x.natAbs y.natAbs:Nat):Int)):=by
 refine zw (fn:=Tryz.f107) R4 ?_;refine zG ?_;refine sB [jx sx,gS ax lx cx] ?_;intro R ag aq;refine sB [jx sy,gS ay ly cy] ?_;intro S ah ar;refine sA ?_;intro T ai au;refine sA ?_;intro U aj av;refine zG ?_;refine sC (tU _ (j.t zt)) ?_;rintro _ V a7 ⟨P,rfl,p⟩ b3 aw;rcases bvs p with ⟨rfl,i⟩|⟨rfl,i⟩
 ·refine zG ?_;refine sC (gcdX _ (g.t zt) (s.t zt) (j.t zt) szB szB) ?_;rintro _ W a8 ⟨B,u,L,F,rfl,o⟩ b4 az;refine sA ?_;intro Y ak b0;refine sS [jx B,gS u L F] ?_;intro Z al ab;refine zG ?_;refine zl [0,0,3,0,0,31,63,127] rfl ?_;refine zH ?_;refine dC (quoX _ (s.t zt) (o.t zt) szB szB szN) ?_;rintro _ a0 a9 ⟨C,w,M,G,rfl,J⟩ b5 b1;refine zH ?_;refine dC (quoX _ (j.t zt) (o.t zt) szB szB szN) ?_;rintro _ a1 aa ⟨D,A,N,H,rfl,K⟩ b6 b2;refine dS [jx C,gS w M G] ?_;intro a2 am ac;refine dS [jx D,gS A N H] ?_;intro a3 an ad;refine zq ?_;exact ⟨_,_,_,_,_,_,_,_,rfl,(J.t zt),(K.t zt)⟩
 refine zG ?_;refine zl [0,0,1,7] rfl ?_;refine zH ?_;refine dS [jx sx,gS ax lx cx] ?_;intro a4 ao ae;refine dS [jx sy,gS ay ly cy] ?_;intro a5 ap af;refine zq ?_;exact ⟨_,_,_,_,_,_,_,_,rfl,(s.t zt).as (by rw [i];simp),(j.t zt).as (by rw [i];simp)⟩
theorem zgo {x y:Rat}(hx:¬denZ x=0)(e:¬denZ y=0)(h:x.num*((denZ y).tdiv ((rp (denZ x).natAbs (denZ y).natAbs:Nat):Int))+y.num*((denZ x).tdiv ((rp (denZ x).natAbs (denZ y).natAbs:Nat):Int))=0):x+y=0:=by
 obtain ⟨d,l,r,N,s,a,f,g,i,c,j⟩:=AddS.mk' hx e;rw [c] at h;rw [←Cr,a.res.1,h,Int.zero_tdiv]
theorem jk {x y:Rat}(hx:¬denZ x=0)(c:¬denZ y=0):(x+y).num=(x.num*((denZ y).tdiv ((rp (denZ x).natAbs (denZ y).natAbs:Nat):Int))+y.num*((denZ x).tdiv ((rp (denZ x).natAbs (denZ y).natAbs:Nat):Int))).tdiv ((rp (x.num*((denZ y).tdiv ((rp (denZ x).natAbs (denZ y).natAbs:Nat):Int))+y.num*((denZ x).tdiv ((rp (denZ x).natAbs (denZ y).natAbs:Nat):Int))).natAbs (((rp (denZ x).natAbs (denZ y).natAbs:Nat):Int)).natAbs:Nat):Int)∧((x+y).den:Int)=((denZ x).tdiv ((rp (denZ x).natAbs (denZ y).natAbs:Nat):Int))*((denZ y).tdiv ((rp (x.num*((denZ y).tdiv ((rp (denZ x).natAbs (denZ y).natAbs:Nat):Int))+y.num*((denZ x).tdiv ((rp (denZ x).natAbs (denZ y).natAbs:Nat):Int))).natAbs (((rp (denZ x).natAbs (denZ y).natAbs:Nat):Int)).natAbs:Nat):Int)):=by
 obtain ⟨d,l,r,N,s,a,i,j,e,f,g⟩:=AddS.mk' hx c;rw [f,g N rfl,e];refine ⟨a.res.1,?_⟩;rw [a.res.2,Br,wq c,lK]
theorem zac {x y:Rat}(hx:¬denZ x=0)(d:¬denZ y=0)(h:((rp (denZ x).natAbs (denZ y).natAbs:Nat):Int)=1):(x+y).num=x.num*((denZ y).tdiv ((rp (denZ x).natAbs (denZ y).natAbs:Nat):Int))+y.num*((denZ x).tdiv ((rp (denZ x).natAbs (denZ y).natAbs:Nat):Int))∧((x+y).den:Int)=denZ x*denZ y:=by
 have c:=jk hx d;rw [h] at c ⊢;have e:(1:Int).natAbs=1:=rfl;rw [e,Fo,show ((1:Nat):Int)=1 from rfl,C7,C7,C7] at c;rw [C7,C7];exact c
theorem addQ (k:Nat){x:Rat}{y:Rat}(g:GG h n)(s:IW h n sx ax lx cx x.num)(f:IW h n dx ex fx gx (denZ x))(u:IW h n sy ay ly cy y.num)(i:IW h n dy ey fy gy (denZ y))(hx:Sz a x)(hy:Sz b y)(dz:a+b+1≤2496):CX (cal (k+9)) 71 [.agg #[jx sx,gS ax lx cx,jx dx,gS ex fx gx],.agg #[jx sy,gS ay ly cy,jx dy,gS ey fy gy]] h n (QV (x+y)):=by
 obtain ⟨au,ar⟩:x.num.natAbs<2^a∧(denZ x).natAbs<2^a:=⟨hx.1,hx.z⟩;obtain ⟨aw,av⟩:y.num.natAbs<2^b∧(denZ y).natAbs<2^b:=⟨hy.1,hy.z⟩;have bn:=yU au zo;have bm:=yU ar zo;have bp:=yU aw zo;have bo:=yU av zo;refine zw (fn:=Tryz.f71) R4 ?_;refine zG ?_;refine sB [jx sx,gS ax lx cx,jx dx,gS ex fx gx] ?_;intro cm fa fu;refine sB [jx sy,gS ay ly cy,jx dy,gS ey fy gy] ?_;intro cn fb fv;refine sA ?_;intro co fc fw;refine zG ?_;refine sC (yK _ (f.t zt)) ?_;rintro _ cp e8 ⟨bz,rfl,P⟩ gt fz;rcases bvs P with ⟨rfl,c⟩|⟨rfl,c⟩
 ·refine zG ?_;refine sC (yK _ (f.t zt)) ?_;rintro _ cq e9 ⟨c0,rfl,R⟩ gu g0;rcases bvs R with ⟨rfl,d⟩|⟨rfl,d⟩
  ·refine zG ?_;refine sC (yK _ (i.t zt)) ?_;rintro _ cr ea ⟨c1,rfl,S⟩ gv g1;rcases bvs S with ⟨rfl,e⟩|⟨rfl,e⟩
   ·refine zG ?_;refine sC (gcdX _ (g.t zt) (f.t zt) (i.t zt) szB szB) ?_;rintro _ cs eb ⟨a5,Y,bf,ac,rfl,l⟩ gw g2;refine sA ?_;intro ct fd g3;refine sS [jx a5,gS Y bf ac] ?_;intro cu fe ez;refine zG ?_;refine zl [0,1,0,7,0,16,0,127,0,0,1023,2047] rfl ?_;refine zH ?_;refine dC (quoX _ (i.t zt) (l.t zt) szB szB szN) ?_;rintro _ cv ec ⟨a6,Z,bg,ad,rfl,az⟩ gz g4;refine zH ?_;refine dC (quoX _ (f.t zt) (l.t zt) szB szB szN) ?_;rintro _ cw ed ⟨a7,a0,bh,ae,rfl,I⟩ i0 g5;refine dB [jx false,gS none 0 0] ?_;intro cz ff g6;refine dB [jx false,gS none 0 0] ?_;intro d0 fg g7;refine dS [jx a6,gS Z bg ad] ?_;intro d1 fh f0;refine dS [jx a7,gS a0 bh ae] ?_;intro d2 fi f1;refine zG ?_;refine zl [0,1,0,7,0,16,0,127,255,0,1023] rfl ?_;refine zH ?_;refine dC (mulX _ (s.t zt) (az.t zt) szB szB) ?_;rintro _ d3 ee ⟨c2,bq,e0,ce,rfl,b0⟩ i1 g8;refine zH ?_;refine dC (mulX _ (u.t zt) (I.t zt) szB szB) ?_;rintro _ d4 ef ⟨c3,br,e1,cf,rfl,b1⟩ i2 g9;refine dC (addX _ (b0.t zt) b1 szB szB) ?_;rintro _ d5 eg ⟨a8,a1,bi,af,rfl,o⟩ i3 ga;refine dB [jx false,gS none 0 0] ?_;intro d6 fj gb;refine dS [jx a8,gS a1 bi af] ?_;intro d7 fk f2;refine zG ?_;refine sC (yK _ (o.t zt)) ?_;rintro _ d8 eh ⟨c4,rfl,T⟩ i4 gc;rcases bvs T with ⟨rfl,N⟩|⟨rfl,N⟩
    ·refine zG ?_;refine sC (tU _ (l.t zt)) ?_;rintro _ d9 ei ⟨c5,rfl,U⟩ i5 gd;rcases bvs U with ⟨rfl,p⟩|⟨rfl,p⟩
     ·refine zG ?_;refine sC (gcdX _ (g.t zt) (o.t zt) (l.t zt) szB szB) ?_;rintro _ da ej ⟨a9,a2,bj,ag,rfl,J⟩ i6 ge;refine sA ?_;intro db fl gf;refine sS [jx a9,gS a2 bj ag] ?_;intro dc fm f3;refine zG ?_;refine zl [0,0,3,0,0,16,0,119,255,511,1023] rfl ?_;refine zH ?_;refine dC (quoX _ (o.t zt) (J.t zt) szB szB szN) ?_;rintro _ dd ek ⟨c6,bs,e2,cg,rfl,b2⟩ i7 gg;refine zH ?_;refine dC (quoX _ (i.t zt) (J.t zt) szB szB szN) ?_;rintro _ de el ⟨c7,bt,e3,ch,rfl,b3⟩ i8 gh;refine dC (mulX _ (I.t zt) b3 szB szB) ?_;rintro _ df em ⟨c8,bu,e4,ci,rfl,b4⟩ i9 gi;refine dC (vE _ (b2.t zt) b4 (jk d e).1 (jk d e).2) ?_;rintro _ dg en ⟨aa,a3,bk,ah,aj,al,an,ap,rfl,b5,bd⟩ ia gj;refine dS [jx aa,gS a3 bk ah,jx aj,gS al an ap] ?_;intro dh fo f4;refine zq ?_;exact ⟨_,_,_,_,_,_,_,_,rfl,(b5.t zt),(bd.t zt)⟩
     refine zG ?_;refine zl [0,0,2,0,8,30,63,127] rfl ?_;refine zH ?_;refine dC (mulX _ (f.t zt) (i.t zt) szB szB) ?_;rintro _ di eo ⟨c9,bv,e5,cj,rfl,b6⟩ ib gk;refine dC (vE _ (o.t zt) b6 (zac d e p).1 (zac d e p).2) ?_;rintro _ dj ep ⟨ab,a4,bl,ai,ak,am,ao,aq,rfl,b7,be⟩ ic gl;refine dS [jx ab,gS a4 bl ai,jx ak,gS am ao aq] ?_;intro dk fp f5;refine zq ?_;exact ⟨_,_,_,_,_,_,_,_,rfl,(b7.t zt),(be.t zt)⟩
    refine zG ?_;refine sT #[jx false,gS none 0 0,jx false,gS none 0 0] ?_;refine sS [jx false,gS none 0 0,jx false,gS none 0 0] ?_;intro dl fq f6;refine zq ?_;exact (show x+y=0 from zgo (c) (e) N)▸QV.zero _ _
   refine zG ?_;refine zl [0,1,0,4,15,0,32,127,0,256,1023,2047] rfl ?_;refine zH ?_;refine dC (mulX _ (u.t zt) (f.t zt) szB szB) ?_;rintro _ dm eq ⟨ca,bw,e6,ck,rfl,b8⟩ id gm;refine zH ?_;refine dC (addX _ b8 (s.t zt) szB szB) ?_;rintro _ dn er ⟨B,v,K,F,rfl,b9⟩ ie gn;refine zH ?_;refine dT #[jx B,gS v K F,jx dx,gS ex fx gx] ?_;refine dS [jx B,gS v K F,jx dx,gS ex fx gx] ?_;intro dp fr f7;refine zq ?_;exact ⟨_,_,_,_,_,_,_,_,rfl,(b9.t zt).as ((zlf d e).1.symm),(f.t zt).as ((zlf d e).2.symm)⟩
  exact eN d c
 refine zG ?_;refine sC (yK _ (i.t zt)) ?_;rintro _ dq es ⟨cb,rfl,V⟩ ig go;rcases bvs V with ⟨rfl,j⟩|⟨rfl,j⟩
 ·refine zG ?_;refine sC (yK _ (f.t zt)) ?_;rintro _ dr et ⟨cc,rfl,W⟩ ii gp;rcases bvs W with ⟨rfl,O⟩|⟨rfl,O⟩
  ·exact eN c O
  refine zG ?_;refine zl [0,1,0,4,15,0,32,127,0,256,1023,2047] rfl ?_;refine zH ?_;refine dC (mulX _ (s.t zt) (i.t zt) szB szB) ?_;rintro _ ds eu ⟨cd,bx,e7,cl,rfl,ba⟩ ij gq;refine zH ?_;refine dC (addX _ ba (u.t zt) szB szB) ?_;rintro _ dt ev ⟨C,w,L,G,rfl,bb⟩ ik gr;refine zH ?_;refine dT #[jx C,gS w L G,jx dy,gS ey fy gy] ?_;refine dS [jx C,gS w L G,jx dy,gS ey fy gy] ?_;intro du fs f8;refine zq ?_;exact ⟨_,_,_,_,_,_,_,_,rfl,(bb.t zt).as ((zgp c j).1.symm),(i.t zt).as ((zgp c j).2.symm)⟩
 refine zG ?_;refine sC (addX _ (s.t zt) (u.t zt) szB szB) ?_;rintro _ dv ew ⟨D,A,M,H,rfl,bc⟩ il gs;refine sT #[jx D,gS A M H,jx false,gS none 0 0] ?_;refine sS [jx D,gS A M H,jx false,gS none 0 0] ?_;intro dw ft f9;refine zq ?_;exact ⟨_,_,_,_,_,_,_,_,rfl,(bc.t zt).as ((zlg c j).1.symm),(IW.zero _ _).as ((zlg c j).2.symm)⟩
theorem zki {x y:Rat}(hx:denZ x=0)(e:denZ y=0):(x*y).num=x.num*y.num∧denZ (x*y)=0:=by
 rw [yr] at*
 have c:=sf x y;have d:=si x y;rw [hx,e] at c d;simp at c d;exact ⟨c,d⟩
theorem km (x y:Rat):(x*y).num=(x.num.tdiv ((rp x.num.natAbs ((y.den:Int)).natAbs:Nat):Int))*(y.num.tdiv ((rp y.num.natAbs ((x.den:Int)).natAbs:Nat):Int))∧((x*y).den:Int)=((x.den:Int).tdiv ((rp y.num.natAbs ((x.den:Int)).natAbs:Nat):Int))*((y.den:Int).tdiv ((rp x.num.natAbs ((y.den:Int)).natAbs:Nat):Int)):=by
 simp only [qe,lK];have h:=zm2 x y;rw [Di (CA.2 (B5 _ _)),Di (CA.2 (B5 _ _))];refine ⟨h.1,?_⟩;rw [h.2,Br]
theorem mulQ (k:Nat){x:Rat}{y:Rat}(g:GG h n)(c:IW h n sx ax lx cx x.num)(C:IW h n dx ex fx gx (denZ x))(d:IW h n sy ay ly cy y.num)(D:IW h n dy ey fy gy (denZ y))(hx:Sz a x)(B:Sz b y)(dz:a+b≤2496):CX (cal (k+10)) 51 [.agg #[jx sx,gS ax lx cx,jx dx,gS ex fx gx],.agg #[jx sy,gS ay ly cy,jx dy,gS ey fy gy]] h n (QV (x*y)):=by
 obtain ⟨ap,an⟩:x.num.natAbs<2^a∧(denZ x).natAbs<2^a:=⟨hx.1,hx.z⟩;obtain ⟨au,aq⟩:y.num.natAbs<2^b∧(denZ y).natAbs<2^b:=⟨B.1,B.z⟩;have bq:=yU ap zo;have bo:=yU an zo;have bt:=yU au zo;have br:=yU aq zo;have e0:=x.den_pos;have e1:=y.den_pos;have ao:((x.den:Int)).natAbs<2^a:=hx.2;have ar:((y.den:Int)).natAbs<2^b:=B.2;have bp:=yU ao zo;have bs:=yU ar zo;refine zw (fn:=Tryz.f51) R4 ?_;refine zG ?_;refine sB [jx sx,gS ax lx cx,jx dx,gS ex fx gx] ?_;intro cn f8 fz;refine sB [jx sy,gS ay ly cy,jx dy,gS ey fy gy] ?_;intro co f9 g0;refine sA ?_;intro cp fa g1;refine zG ?_;refine sC (yK _ (c.t zt)) ?_;rintro _ cq ea ⟨c3,rfl,u⟩ gt g2;rcases bvs u with ⟨rfl,p⟩|⟨rfl,p⟩
 ·refine zG ?_;refine sC (yK _ (d.t zt)) ?_;rintro _ cr eb ⟨c4,rfl,v⟩ gu g3;rcases bvs v with ⟨rfl,s⟩|⟨rfl,s⟩
  ·refine zG ?_;refine sC (yK _ (C.t zt)) ?_;rintro _ cs ec ⟨c5,rfl,w⟩ gv g4;rcases bvs w with ⟨rfl,e⟩|⟨rfl,e⟩
   ·refine zG ?_;refine zl [0,1,0,4,15,31,63,63,0,0,895,2047] rfl ?_;refine zH ?_;refine dC (denQ _ (d.t zt) (D.t zt)) ?_;rintro _ ct ed ⟨c6,bu,e2,cf,rfl,av⟩ gw g5;refine dC (je _ (g.t zt) (c.t zt) av szB szB zo) ?_;rintro _ cu ee ⟨L,F,bi,S,ah,Z,a5,ab,rfl,aw,bc⟩ gz g6;refine zH ?_;refine dB [jx false,gS none 0 0] ?_;intro cv fb g7;refine dB [jx false,gS none 0 0] ?_;intro cw fc g8;refine dS [jx L,gS F bi S] ?_;intro cz fd et;refine dS [jx ah,gS Z a5 ab] ?_;intro d0 fe eu;refine zG ?_;refine zl [0,1,0,4,15,31,63,63,0,0,895,2047] rfl ?_;refine zH ?_;refine dC (denQ _ (c.t zt) (C.t zt)) ?_;rintro _ d1 ef ⟨c7,bv,e3,cg,rfl,az⟩ i0 g9;refine dC (je _ (g.t zt) (d.t zt) az szB szB zo) ?_;rintro _ d2 eg ⟨M,G,bj,T,ai,a0,a6,ac,rfl,b0,bd⟩ i1 ga;refine zH ?_;refine dB [jx false,gS none 0 0] ?_;intro d3 ff gb;refine dB [jx false,gS none 0 0] ?_;intro d4 fg gc;refine dS [jx M,gS G bj T] ?_;intro d5 fh ev;refine dS [jx ai,gS a0 a6 ac] ?_;intro d6 fi ew;refine zG ?_;refine zl [0,0,3,0,0,31,63,127] rfl ?_;refine zH ?_;refine dC (mulX _ (aw.t zt) (b0.t zt) szB szB) ?_;rintro _ d7 eh ⟨c8,bw,e4,ch,rfl,b1⟩ i2 gd;refine zH ?_;refine dC (mulX _ (bd.t zt) (bc.t zt) szB szB) ?_;rintro _ d8 ei ⟨c9,bx,e5,ci,rfl,b2⟩ i3 ge;refine dC (vE _ (b1.t zt) b2 (km x y).1 (km x y).2) ?_;rintro _ d9 ej ⟨N,H,bk,U,a1,a7,ad,aj,rfl,b3,be⟩ i4 gf;refine dS [jx N,gS H bk U,jx a1,gS a7 ad aj] ?_;intro da fj ez;refine zq ?_;exact ⟨_,_,_,_,_,_,_,_,rfl,(b3.t zt),(be.t zt)⟩
   refine zG ?_;refine sC (yK _ (D.t zt)) ?_;rintro _ db ek ⟨ca,rfl,A⟩ i5 gg;rcases bvs A with ⟨rfl,f⟩|⟨rfl,f⟩
   ·refine zG ?_;refine zl [0,1,0,4,15,31,63,63,0,0,895,2047] rfl ?_;refine zH ?_;refine dC (denQ _ (d.t zt) (D.t zt)) ?_;rintro _ dc el ⟨cb,bz,e6,cj,rfl,b4⟩ i6 gh;refine dC (je _ (g.t zt) (c.t zt) b4 szB szB zo) ?_;rintro _ dd em ⟨O,I,bl,V,ak,a2,a8,ae,rfl,b5,bf⟩ i7 gi;refine zH ?_;refine dB [jx false,gS none 0 0] ?_;intro de fk gj;refine dB [jx false,gS none 0 0] ?_;intro df fl gk;refine dS [jx O,gS I bl V] ?_;intro dg fm f0;refine dS [jx ak,gS a2 a8 ae] ?_;intro dh fo f1;refine zG ?_;refine zl [0,1,0,4,15,31,63,63,0,0,895,2047] rfl ?_;refine zH ?_;refine dC (denQ _ (c.t zt) (C.t zt)) ?_;rintro _ di en ⟨cc,c0,e7,ck,rfl,b6⟩ i8 gl;refine dC (je _ (g.t zt) (d.t zt) b6 szB szB zo) ?_;rintro _ dj eo ⟨P,J,bm,W,al,a3,a9,af,rfl,b7,bg⟩ i9 gm;refine zH ?_;refine dB [jx false,gS none 0 0] ?_;intro dk fp gn;refine dB [jx false,gS none 0 0] ?_;intro dl fq go;refine dS [jx P,gS J bm W] ?_;intro dm fr f2;refine dS [jx al,gS a3 a9 af] ?_;intro dn fs f3;refine zG ?_;refine zl [0,0,3,0,0,31,63,127] rfl ?_;refine zH ?_;refine dC (mulX _ (b5.t zt) (b7.t zt) szB szB) ?_;rintro _ dp ep ⟨cd,c1,e8,cl,rfl,b8⟩ ia gp;refine zH ?_;refine dC (mulX _ (bg.t zt) (bf.t zt) szB szB) ?_;rintro _ dq eq ⟨ce,c2,e9,cm,rfl,b9⟩ ib gq;refine dC (vE _ (b8.t zt) b9 (km x y).1 (km x y).2) ?_;rintro _ dr er ⟨R,K,bn,Y,a4,aa,ag,am,rfl,ba,bh⟩ ic gr;refine dS [jx R,gS K bn Y,jx a4,gS aa ag am] ?_;intro ds ft f4;refine zq ?_;exact ⟨_,_,_,_,_,_,_,_,rfl,(ba.t zt),(bh.t zt)⟩
   refine zG ?_;refine sC (mulX _ (c.t zt) (d.t zt) szB szB) ?_;rintro _ dt es ⟨j,i,o,l,rfl,bb⟩ id gs;refine sT #[jx j,gS i o l,jx false,gS none 0 0] ?_;refine sS [jx j,gS i o l,jx false,gS none 0 0] ?_;intro du fu f5;refine zq ?_;exact ⟨_,_,_,_,_,_,_,_,rfl,(bb.t zt).as ((zki e f).1.symm),(IW.zero _ _).as ((zki e f).2.symm)⟩
  refine zG ?_;refine sT #[jx false,gS none 0 0,jx false,gS none 0 0] ?_;refine sS [jx false,gS none 0 0,jx false,gS none 0 0] ?_;intro dv fv f6;refine zq ?_;exact (show x*y=0 from by rw [Cr.1 s,Rat.mul_zero])▸QV.zero _ _
 refine zG ?_;refine sT #[jx false,gS none 0 0,jx false,gS none 0 0] ?_;refine sS [jx false,gS none 0 0,jx false,gS none 0 0] ?_;intro dw fw f7;refine zq ?_;exact (show x*y=0 from by rw [Cr.1 p,Rat.zero_mul])▸QV.zero _ _
theorem ny {s:Int}{a b c A B C:Prop}(e:(a→A)∧(b→B)∧(c→C))(q:s= -1∧a∨s=0∧b∨s=1∧c):s= -1∧A∨s=0∧B∨s=1∧C:=by
 rcases q with q|q|q
 ·exact .inl ⟨q.1,e.1 q.2⟩
 ·exact .inr (.inl ⟨q.1,e.2.1 q.2⟩)
 exact .inr (.inr ⟨q.1,e.2.2 q.2⟩)
theorem pK {x y:Rat}:(x.num*(y.den:Int)<y.num*(x.den:Int)→x<y)∧(x.num*(y.den:Int)=y.num*(x.den:Int)→x=y)∧(y.num*(x.den:Int)<x.num*(y.den:Int)→y<x):=⟨(jc x y).1.2,(jc x y).2.1.2,(jc x y).2.2.2⟩
theorem zf6 {x y:Rat}(hx:denZ x=0)(c:denZ y=0):(x.num<y.num→x<y)∧(x.num=y.num→x=y)∧(y.num<x.num→y<x):=by
 have:=pK (x:=x) (y:=y);rw [yr.1 hx,yr.1 c] at this;simpa using this
theorem az {x y:Rat}(h:x.num<0∧0≤y.num∨x.num≤0∧0<y.num∨y.num<0∧0≤x.num∨y.num≤0∧0<x.num):(x.num<y.num→x<y)∧(x.num=y.num→x=y)∧(y.num<x.num→y<x):=by
 have d:=pK (x:=x) (y:=y);have i:=x.den_pos;have j:=y.den_pos;refine ⟨fun e=>d.1 ?_,fun e=>zo,fun e=>d.2.2 ?_⟩
 ·rcases Int.lt_or_le x.num 0 with c|c
  ·have f:=Fe c (show (0:Int)<y.den by omega);have g:=HE (show 0≤y.num by omega) (show (0:Int)≤x.den by omega);omega
  have:x.num=0:=zo;rw [this,C8];exact Ed zo zo
 rcases Int.lt_or_le y.num 0 with c|c
 ·have f:=Fe c (show (0:Int)<x.den by omega);have g:=HE (show 0≤x.num by omega) (show (0:Int)≤y.den by omega);omega
 have:y.num=0:=zo;rw [this,C8];exact Ed zo zo
theorem xp (k:Nat){x:Rat}{y:Rat}(c:IW h n sx ax lx cx x.num)(e:IW h n dx ex fx gx (denZ x))(d:IW h n sy ay ly cy y.num)(f:IW h n dy ey fy gy (denZ y))(hx:Sz a x)(o:Sz b y)(bj:a+b≤2496):VF (cal (k+6)) 69 [.agg #[jx sx,gS ax lx cx,jx dx,gS ex fx gx],.agg #[jx sy,gS ay ly cy,jx dy,gS ey fy gy]] h n fun v=>∃s:Int,v=gZ .i64 s∧(s= -1∧x<y∨s=0∧x=y∨s=1∧y<x):=by
 obtain ⟨w,p⟩:x.num.natAbs<2^a∧(denZ x).natAbs<2^a:=⟨hx.1,hx.z⟩;obtain ⟨C,A⟩:y.num.natAbs<2^b∧(denZ y).natAbs<2^b:=⟨o.1,o.z⟩;have Z:=yU w zo;have W:=yU p zo;have a2:=yU C zo;have a0:=yU A zo;have bk:=x.den_pos;have bl:=y.den_pos;have u:((x.den:Int)).natAbs<2^a:=hx.2;have B:((y.den:Int)).natAbs<2^b:=o.2;have Y:=yU u zo;have a1:=yU B zo;refine zO (fn:=Tryz.f69) R4 ?_;refine zG ?_;refine sB [jx sx,gS ax lx cx,jx dx,gS ex fx gx] ?_;intro av ce cp;refine sB [jx sy,gS ay ly cy,jx dy,gS ey fy gy] ?_;intro aw cf cq;refine zG ?_;refine zl [0,1,3,7,15,31,63,127,255,511,1023,511,4095,8191,16383] rfl ?_;refine zH ?_;refine dC (yK _ (e.t zt)) ?_;rintro _ b0 bu ⟨ab,rfl,j⟩ dc cr;rcases bvs j with ⟨rfl,g⟩|⟨rfl,g⟩
 ·refine zH ?_;refine dC (fD _ (c.t zt) (e.t zt)) ?_;rintro _ b1 bv ⟨S,rfl,cg⟩ dd cs;refine zH ?_;refine dC (fD _ (d.t zt) (f.t zt)) ?_;rintro _ b2 bw ⟨T,rfl,ch⟩ de ct;by_cases q16:S=T
  ·refine zJ ?_;refine zl [0,1,0,4,15,0,32,0,159,511,1023,2047] rfl ?_;refine zH ?_;refine dC (denQ _ (d.t zt) (f.t zt)) ?_;rintro _ b3 bx ⟨ac,a3,bm,al,rfl,D⟩ df cu;refine dC (mulX _ (c.t zt) D szB szB) ?_;rintro _ b4 bz ⟨ad,a4,bn,am,rfl,F⟩ dg cv;refine zH ?_;refine dC (denQ _ (c.t zt) (e.t zt)) ?_;rintro _ b5 c0 ⟨ae,a5,bo,an,rfl,G⟩ dh cw;refine dC (mulX _ (d.t zt) G szB szB) ?_;rintro _ b6 c1 ⟨af,a6,bp,ao,rfl,H⟩ di cz;refine dC (rO _ (F.t zt) H szB szB) ?_;rintro _ b7 c2 ⟨ck,rfl,M⟩ dj d0;refine zf ?_;exact ⟨_,rfl,ny (pK) M⟩
  refine zJ ?_;refine sC (rO _ (c.t zt) (d.t zt) szB szB) ?_;rintro _ b8 c3 ⟨cl,rfl,N⟩ dk d1;refine zf ?_;exact ⟨_,rfl,ny (az zo) N⟩
 refine zH ?_;refine dC (yK _ (f.t zt)) ?_;rintro _ b9 c4 ⟨ag,rfl,l⟩ dl d2;rcases bvs l with ⟨rfl,i⟩|⟨rfl,i⟩
 ·refine zH ?_;refine dC (fD _ (c.t zt) (e.t zt)) ?_;rintro _ ba c5 ⟨U,rfl,ci⟩ dm d3;refine zH ?_;refine dC (fD _ (d.t zt) (f.t zt)) ?_;rintro _ bb c6 ⟨V,rfl,cj⟩ dn d4;by_cases q26:U=V
  ·refine zJ ?_;refine zl [0,1,0,4,15,0,32,0,159,511,1023,2047] rfl ?_;refine zH ?_;refine dC (denQ _ (d.t zt) (f.t zt)) ?_;rintro _ bc c7 ⟨ah,a7,bq,ap,rfl,I⟩ dp d5;refine dC (mulX _ (c.t zt) I szB szB) ?_;rintro _ bd c8 ⟨ai,a8,br,aq,rfl,J⟩ dq d6;refine zH ?_;refine dC (denQ _ (c.t zt) (e.t zt)) ?_;rintro _ be c9 ⟨aj,a9,bs,ar,rfl,K⟩ dr d7;refine dC (mulX _ (d.t zt) K szB szB) ?_;rintro _ bf ca ⟨ak,aa,bt,au,rfl,L⟩ ds d8;refine dC (rO _ (J.t zt) L szB szB) ?_;rintro _ bg cb ⟨cm,rfl,O⟩ dt d9;refine zf ?_;exact ⟨_,rfl,ny (pK) O⟩
  refine zJ ?_;refine sC (rO _ (c.t zt) (d.t zt) szB szB) ?_;rintro _ bh cc ⟨cn,rfl,P⟩ du da;refine zf ?_;exact ⟨_,rfl,ny (az zo) P⟩
 refine zJ ?_;refine sC (rO _ (c.t zt) (d.t zt) szB szB) ?_;rintro _ bi cd ⟨co,rfl,R⟩ dv db;refine zf ?_;exact ⟨_,rfl,ny (zf6 g i) R⟩
end
theorem z8 {S:List (List UInt8)}{h:HF}{n:Nat}{a:Option Addr}{len cap:Nat}(d:Sl h n 1 (gS a len cap) (strs S)):len=gP S:=by
 obtain ⟨g,f,b,e,c⟩:=d.len;injection e with e1 e2 e3
 rw [zha] at c;omega
theorem zmo (m:Nat)(l:List Value):gP (rep m l)=m*gP l:=by
 induction m with
 |zero=>simp [rep]
 |succ m ih=>rw [rep,k0,ih,Bo];omega
section
variable (k:Nat){h:HF}{n:Nat}{a1 a2:Option Addr}{l1 c1 l2 c2 x y:Nat}
end
end Go.Proofs.YtepkmadmigkgmaaGreatDoor
namespace Go.Proofs.YtepkmadmigkgmaaGreatDoor
variable {s:List UInt8}{V a b:Nat}
def dig (b:UInt8):Bool:=decide (48≤b.toNat∧b.toNat≤57)
theorem nh {b:UInt8}:dig b=true↔48≤b.toNat∧b.toNat≤57:=by unfold dig;simp
theorem AllD.all:AllD s↔∀b∈s,dig b=true:=by
 unfold AllD;constructor
 ·exact fun h b c=>nh.2 (h b c)
 exact fun h b c=>nh.1 (h b c)
theorem um {p:UInt8→Bool}:∀b∈s.takeWhile p,p b=true:=by
 induction s with
 |nil=>intro b c;simp at c
 |cons x s ih=>
  intro b c;rw [EX] at c;split at c
  ·rename_i h;rcases Ad.1 c with rfl|c
   ·exact h
   exact ih b c
  simp at c
theorem rk {a r:List UInt8}(d:AllD a)(i:r=[]∨∃x e,r=x::e∧dig x=false):(a++r).takeWhile dig=a∧(a++r).dropWhile dig=r:=by
 induction a with
 |nil=>
  rcases i with rfl|⟨x,e,rfl,j⟩
  ·exact ⟨rfl,rfl⟩
  simp [EX,Gf,j]
 |cons b a ih=>
  have f:dig b=true:=nh.2 (d b gN);have:=ih fun c g=>d c (by simp [g]);simp only [Es,EX,Gf,f,if_true];exact ⟨by rw [this.1],this.2⟩
theorem dU {a b:UInt8}(h:a.toNat=b.toNat):a=b:=EU.1 h
theorem bQ {b:UInt8}(h:48≤b.toNat∧b.toNat≤57):Bd (48+(b.toNat-48))=b:=by
 apply dU;rw [uv zo];omega
theorem zft {d:List UInt8}(j:AllD d)(h0:d≠[])(f:d.head?≠some 48):dval d≠0∧(decB (dval d)).map Bd=d:=by
 induction hl:gP d generalizing d with
 |zero=>exact eN (vT.1 hl) h0
 |succ m ih=>
  obtain ⟨i,b,rfl⟩:∃i b,d=i++[b]:=⟨d.dropLast,d.getLast h0,(List.dropLast_concat_getLast h0).symm⟩;have g:=j b gN;rw [rK];by_cases hi:i=[]
  ·subst hi;have u:b.toNat≠48:=fun e=>f (by show some b=some 48;rw [dU (a:=b) (b:=48) e]);have l:dval []=0:=rfl;rw [l];refine ⟨zo,?_⟩;rw [gi zo (.inr zo)];have:decB 0=[]:=by unfold decB;rw [xo];rfl
   rw [this,Au,C9,FF,bQ g];rfl
  obtain ⟨o,p⟩:=ih (d:=i) (fun c q=>j c (by simp [q])) hi (by
   cases i with
   |nil=>exact eN rfl hi
   |cons x i=>simpa using f) (by simpa using hl)
  refine ⟨zo,?_⟩;rw [gi zo (.inl o),AP,p,C9,FF,bQ g]
theorem qC {d:List UInt8}(g:AllD d)(h0:d≠[])(c:d.head?≠some 48):decT (dval d)=d:=by
 obtain ⟨e,f⟩:=zft g h0 c;unfold decT;rw [eP e,f]
theorem ag:decT 1=[49]:=qC (d:=[49]) (fun b c=>by rw [qq.1 c];decide) gN gN
theorem zfw (h:V≠0):((decB V).map Bd).head?≠some 48:=by
 induction V using Nat.strongRecOn with
 |ind V ih=>
  have e:decB V=decB (V/10)++[48+V%10]:=by
   unfold decB;rw [wy h];simp
  rw [e];by_cases h2:V/10=0
  ·have:decB (V/10)=[]:=by unfold decB;rw [h2,xo];rfl
   rw [this];intro f;simp only [Au,C9,FF,List.head?_cons,Ei] at f;have:=uv (c:=V%10) zo;rw [f] at this;have g:(48:UInt8).toNat=48:=rfl;omega
  have:=ih (V/10) zo h2;cases hd:(decB (V/10)).map Bd with
  |nil=>
   have d:=(pI (V/10)).2;rw [hd] at d;exact eN d.symm h2
  |cons x l=>
   rw [AP,hd];rw [hd] at this;simpa using this
theorem ga (h:V≠0):(decT V).head?≠some 48:=by
 unfold decT;rw [eP h];exact zfw h
theorem ai (h:decT a=decT b):a=b:=by
 rw [←(wx a).2.1,h,(wx b).2.1]
def spl (s:List UInt8):List UInt8×List UInt8×Bool:=
 let b:=xB s
 let m:=b.takeWhile dig
 let r:=b.dropWhile dig
 if m=[48] then (m,[],!z6 s&&r.isEmpty)
 else if m=[]∨m.head?=some 48 then (m,[],false)
 else if r=[] then (m,[],true)
 else if r.head?≠some 47 then (m,[],false)
 else
  let d:=(r.drop 1).takeWhile dig
  let r2:=(r.drop 1).dropWhile dig
  (m,d,r2.isEmpty&& !d.isEmpty&&d.head? != some 48&&d != [49])
theorem zb9 (s:List UInt8):(xB s).takeWhile dig++(xB s).dropWhile dig=xB s:=Dc
theorem zmw:s=(if z6 s then [45] else [])++xB s:=by
 unfold xB;by_cases h:z6 s=true
 ·rw [eS h,eS h];unfold z6 at h;cases s with
  |nil=>simp at h
  |cons x s=>
   have:x=45:=by simpa using h
   subst this;rfl
 rw [eP h,eP h];rfl
structure Frm (s:List UInt8)(m d:List UInt8):Prop where
 dm:AllD m
 m0:m≠[]
 dd:AllD d
 lead:m=[48]∧z6 s=false∧d=[]∨m.head?≠some 48
 den:d=[]∨d.head?≠some 48∧d≠[49]
 eq:s=(if z6 s then [45] else [])++(m++(if d=[] then [] else 47::d))
theorem rZ {m d:List UInt8}(h:spl s=(m,d,true)):Frm s m d:=by
 have g:=zb9 s;have y:=zmw (s:=s);have w:AllD ((xB s).takeWhile dig):=AllD.all.2 um;unfold spl at h;simp only at h;generalize (xB s).takeWhile dig=m0 at*
 generalize (xB s).dropWhile dig=r at*
 split at h
 ·rename_i h48;simp only [BQ] at h;obtain ⟨rfl,rfl,c⟩:=h;simp only [AA,BT,G5] at c;obtain ⟨c,rfl⟩:=c;refine ⟨w,by rw [h48];simp,fun b g=>eN g gN,.inl ⟨h48,c,rfl⟩,.inl rfl,?_⟩;rw [eS rfl,g];exact y
 split at h
 ·simp at h
 rename_i h48 j;have l:¬m0=[]:=fun e=>j (.inl e);have o:¬m0.head?=some 48:=fun e=>j (.inr e);split at h
 ·rename_i hr;simp only [BQ] at h;obtain ⟨rfl,rfl,_⟩:=h;refine ⟨w,l,fun b g=>eN g gN,.inr o,.inl rfl,?_⟩;subst hr;rw [eS rfl,g];exact y
 split at h
 ·simp at h
 rename_i hr f;have f:r.head?=some 47:=DJ.1 f;simp only [BQ] at h;obtain ⟨rfl,rfl,c⟩:=h;simp only [AA,BT,G5,bne_iff_ne,ne_eq] at c;obtain ⟨⟨⟨c,p⟩,u⟩,v⟩:=c;obtain ⟨i,rfl⟩:∃i,r=47::i:=by
  cases r with
  |nil=>simp at f
  |cons x r=>exact ⟨r,by simp at f;rw [f]⟩
 simp only [List.drop_one,HG] at c p u v ⊢;have A:AllD (i.takeWhile dig):=AllD.all.2 um;have q:i.takeWhile dig++i.dropWhile dig=i:=Dc;rw [c,Am] at q;rw [q] at A p u v ⊢;have j:¬i=[]:=fun e=>by rw [e] at p;simp at p
 refine ⟨w,l,A,.inr o,.inr ⟨u,v⟩,?_⟩;rw [eP j,g];exact y
theorem px (q:Rat):spl (ratT q)=(decT q.num.natAbs,(if q.den=1 then [] else decT q.den),true):=by
 obtain ⟨B,C⟩:=qj q;obtain ⟨D,F,u⟩:=wx q.num.natAbs;obtain ⟨v,j,i⟩:=wx q.den;have g:=rk (a:=decT q.num.natAbs) (r:=if q.den=1 then [] else 47::decT q.den) D (by
  by_cases h:q.den=1
  ·left;rw [eS h]
  ·right;rw [eP h];exact ⟨47,_,rfl,rfl⟩)
 have d:=rk (a:=decT q.den) (r:=[]) v (.inl rfl);rw [Am] at d;unfold spl;simp only;rw [C,g.1,g.2,B];by_cases h0:q.num=0
 ·have c:q.den=1:=by
   have:=q.reduced;rw [h0] at this;simpa using this
  rw [h0,eS c,eS c];rfl
 have p:q.num.natAbs≠0:=zo;have f:=ga p;have m:¬decT q.num.natAbs=[48]:=fun e=>f (by rw [e];rfl);rw [eP m,eP (by rintro (e|e);exact u e;exact f e)];by_cases c:q.den=1
 ·rw [eS c,eS rfl,eS c]
 rw [eP c,eP gN,eP gN,eP c];simp only [List.drop_one,HG];rw [d.1,d.2];have o:q.den≠0:=q.den_nz;have w:(decT q.den).isEmpty=false:=by cases h:decT q.den with
  |nil=>exact eN h i
  |cons x l=>rfl
 have y:((decT q.den).head? != some 48)=true:=by rw [bne_iff_ne];exact ga o
 have A:(decT q.den != [49])=true:=by
  rw [bne_iff_ne];intro e;have:dval (decT q.den)=1:=by rw [e];rfl
  rw [j] at this;exact c this
 rw [w,y,A];rfl
theorem Frm.rat {m d:List UInt8}(h:Frm s m d)(F:d=[]∨rp (dval m) (dval d)=1):∃q:Rat,ratT q=s∧q.num=(if z6 s then -(dval m:Int) else dval m)∧q.den=(if d=[] then 1 else dval d):=by
 obtain ⟨o,w,j,c,l,A⟩:=h;have v:∃D:Nat,D≠0∧D=(if d=[] then 1 else dval d)∧rp (dval m) D=1∧(if D=1 then [] else 47::decT D)=(if d=[] then [] else 47::d):=by
  by_cases hd:d=[]
  ·refine ⟨1,by decide,by rw [eS hd],Fo _,by rw [eS rfl,eS hd]⟩
  rcases l with h|⟨p,B⟩
  ·exact eN h hd
  have e:=qC j hd p;refine ⟨dval d,(zft j hd p).1,by rw [eP hd],F.resolve_left hd,?_⟩;rw [e,eP hd,eP];intro h;rw [h] at e;exact B (by rw [←e];exact ag)
 obtain ⟨D,y,C,g,u⟩:=v;refine ⟨⟨if z6 s then -(dval m:Int) else dval m,D,y,?_⟩,?_,rfl,C⟩
 ·show C6 _ _;unfold C6;split
  ·rw [AM];exact g
  exact g
 have i:(if z6 s then -(dval m:Int) else dval m).natAbs=dval m:=by
  split
  ·rw [AM];rfl
  rfl
 have G:decT (dval m)=m:=by
  rcases c with ⟨h,_,_⟩|h
  ·rw [h];rfl
  exact qC o w h
 have f:(if (if z6 s then -(dval m:Int) else dval m)<0 then [45] else [])=(if z6 s then [45] else ([]:List UInt8)):=by
  by_cases hh:z6 s=true
  ·rw [eS hh,eS hh];rcases c with ⟨_,h,_⟩|h
   ·rw [h] at hh;cases hh
   have:=(zft o w h).1;rw [eS zo]
  rw [eP hh,eP hh,eP zo]
 show (if (if z6 s then -(dval m:Int) else dval m)<0 then [45] else [])++(decT (if z6 s then -(dval m:Int) else dval m).natAbs++(if D=1 then [] else 47::decT D))=s;rw [f,i,G,u];exact A.symm
theorem oP (s:List UInt8):vF s↔(spl s).2.2=true∧((spl s).2.1=[]∨rp (dval (spl s).1) (dval (spl s).2.1)=1):=by
 constructor
 ·rintro ⟨q,rfl⟩;rw [px];refine ⟨rfl,?_⟩;by_cases c:q.den=1
  ·left;show (if q.den=1 then [] else _)=_;rw [eS c]
  right;show rp (dval (decT _)) (dval (if q.den=1 then [] else _))=1;rw [eP c,(wx _).2.1,(wx _).2.1];exact q.reduced
 rintro ⟨e,f⟩;have g:=rZ (s:=s) (m:=(spl s).1) (d:=(spl s).2.1) (by rw [←e]);obtain ⟨q,c,_⟩:=g.rat f;exact ⟨q,c⟩
end Go.Proofs.YtepkmadmigkgmaaGreatDoor
namespace Go.Proofs.YtepkmadmigkgmaaGreatDoor
open Go Go.GL
variable {ops r:List Oper}{h h':HF}{n n' sz b a i m cap off bt n0 j k:Nat}{X:CtxF}{t:TF}{w ms:List Nat}{Q:SV→Prop}{o:Oper}{d:Tmp}{al:List (Nat×Nat)}{ef:List (Nat×HF×List Nat)}{s:List UInt8}{D α:Type}{ty' ty e:TypeId}{cs c:List Value}{x4 x5 x6 v z:Value}{aq:Option Addr}{ik:IntKind}{fn:Func}{xs ys:List Rat}{q:Rat}{S:List (List UInt8)}{y:Operand}
variable {u:Nat}{x1 x2 x3:Value}{h0:HF}
theorem zhx {p:Rat}(h:ratT p=ratT q):p=q:=by
 have b:=px p;have e:=px q;rw [h,e] at b;have d:decT q.num.natAbs=decT p.num.natAbs:=congrArg Prod.fst b;have a:(if q.den=1 then [] else decT q.den)=(if p.den=1 then [] else decT p.den):=congrArg (fun x=>x.2.1) b;have c:=(qj p).1;have f:=(qj q).1;rw [h,f] at c;have j:=ai d;have l:q.num<0↔p.num<0:=decide_eq_decide.1 c;refine Rat.ext zo ?_;have g:=(wx p.den).2.2;have i:=(wx q.den).2.2;split at a<;>split at a
 ·omega
 ·exact eN a.symm g
 ·exact eN a i
 exact (ai a).symm
noncomputable def zj (s:List UInt8):Rat:=open Classical in if h:vF s then h.choose else 0
theorem xX (h:¬vF s):zj s=0:=by unfold zj;rw [dif_neg h]
theorem qr (h:vF s):ratT (zj s)=s:=by unfold zj;rw [dif_pos h];exact h.choose_spec
theorem pA (h:ratT q=s):zj s=q:=zhx ((qr ⟨q,h⟩).trans h.symm)
structure At (h:HF)(b o:Nat)(c:List Value):Prop where
 ex:∃x cs,h b=some x∧x.cells=some cs∧o+gP c≤gP cs∧(cs.drop o).take (gP c)=c
theorem At.ext {h h':HF}{n o:Nat}(a:At h b o c)(x:Ext n h h')(hb:b<3*n):At h' b o c:=by
 obtain ⟨y,cs,f,g,l,p⟩:=a.ex;exact ⟨y,cs,(x b hb).trans f,g,l,p⟩
theorem At.ld {h:HF}{o:Nat}{c':List Value}{sz:Nat}(a:At h b o c)(k:Nat)(p:CI env ty=some true)(hi:env.inf ty=some (sz,bt,z))(C:k+sz≤gP c)(A:(c.drop k).take sz=c'):yB env ty h ⟨b,o+k,none⟩=some (.agg c'.toArray):=by
 obtain ⟨y,cs,f,g,B,l⟩:=a.ex;refine yw ⟨p,hi⟩ f g zo ?_;rw [←A,←l,FT,Ej,DM];congr 1;omega
theorem At.ld1 {h:HF}{o:Nat}(a:At h b o c)(k:Nat)(p:CI env ty=some false)(A:c[k]?=some v):yB env ty h ⟨b,o+k,none⟩=some v:=by
 obtain ⟨y,cs,f,g,B,l⟩:=a.ex;exact zX p f ⟨g,(qG l A)⟩
inductive Rec {D:Type} (sz:Nat) (P:List Value→D→Prop):List Value→List D→Prop
 |nil:Rec sz P [] []
 |cons {c cs:List Value} {d:D} {ds:List D} (hl:gP c=sz) (hp:P c d) (hr:Rec sz P cs ds):Rec sz P (c++cs) (d::ds)
section
variable {P P':List Value→D→Prop}
theorem Rec.len {a:List D}(r:Rec sz P cs a):gP cs=gP a*sz:=by
 induction r with
 |nil=>simp
 |cons hl hp hr ih=>rw [k0,ih,hl,Ao,Bo];omega
theorem Rec.mono {a:List D}(r:Rec sz P cs a)(f:∀c d,P c d→P' c d):Rec sz P' cs a:=by
 induction r with
 |nil=>exact .nil
 |cons hl hp hr ih=>exact .cons hl (f _ _ hp) ih
theorem Rec.snoc {a:List D}{d:D}(r:Rec sz P cs a)(f:gP c=sz)(g:P c d):Rec sz P (cs++c) (a++[d]):=by
 induction r with
 |nil=>
  have:=Rec.cons f g (Rec.nil (P:=P) (sz:=sz));rw [Am] at this;exact this
 |cons hl2 hp2 hr ih=>rw [Ak];exact .cons hl2 hp2 ih
theorem Rec.get {f:List D}{d:D}(r:Rec sz P cs f):∀{j:Nat},f[j]?=some d→∃c,gP c=sz∧P c d∧(cs.drop (j*sz)).take sz=c∧j*sz+sz≤gP cs:=by
 induction r with
 |nil=>intro j a;simp at a
 | @cons c cs d2 f hl hp hr ih=>
  intro j a;cases j with
  |zero=>
   simp at a;subst a;refine ⟨c,hl,hp,?_,by rw [k0];omega⟩;rw [Bg,Av,←hl,List.take_left]
  |succ j=>
   rw [List.getElem?_cons_succ] at a;obtain ⟨g,l,p,A,B⟩:=ih a;refine ⟨g,l,p,?_,by rw [k0,Bo];omega⟩;rw [←A,List.drop_append,B3 (by rw [hl,Bo];omega),Au,Bo,hl,BM]
end
def RS {D:Type}(sz:Nat)(P:List Value→D→HF→Nat→Prop)(h:HF)(n:Nat)(v:Value)(l:List D):Prop:=∃cells,Sl h n sz v cells∧Rec sz (fun c d=>P c d h n) cells l
structure Stay {D:Type}(P:List Value→D→HF→Nat→Prop):Prop where
 go:∀c d h h' n n',P c d h n→Ext n h h'→n≤n'→P c d h' n'
section
variable {P:List Value→D→HF→Nat→Prop}
theorem RS.ext' (A:Stay P){l:List D}(r:RS sz P h n v l)(x:Ext n h h')(f:n≤n'):RS sz P h' n' v l:=by
 obtain ⟨a,g,p⟩:=r;exact ⟨a,g.ext x f,p.mono fun c d B=>A.go c d _ _ _ _ B x f⟩
theorem RS.len' (g:0<sz){a:Option Addr}{len:Nat}{l:List D}(r:RS sz P h n (gS a len cap) l):len=gP l:=by
 obtain ⟨p,A,B⟩:=r;obtain ⟨C,G,F,e,f⟩:=A.len;injection e with e1 e2 e3
 subst e2;rw [B.len] at f;exact (Nat.eq_of_mul_eq_mul_right g f).symm
theorem RS.at' (A:0<sz){a:Option Addr}{len:Nat}{l:List D}{d:D}(r:RS sz P h n (gS a len cap) l)(hj:l[j]?=some d):∃b off c,a=some ⟨b,off,none⟩∧b<3*n∧j<len∧At h b (off+j*sz) c∧gP c=sz∧P c d h n:=by
 have f:=r.len' A;obtain ⟨B,G,g⟩:=r;have M:=(nN.1 hj).1;obtain ⟨b,off,x,cs,rfl,H,L,I,J,N,K⟩:=G.inv zo;obtain ⟨c,p,C,F,O⟩:=g.get hj;refine ⟨b,off,c,rfl,H,zo,⟨x,cs,L,I,?_,?_⟩,p,C⟩
 ·have:=g.len;rw [←f] at this;omega
 rw [p,←F,←K,FT,Ej,DM];have:=g.len;rw [←f] at this;congr 1;omega
end
theorem vM {h:HF}{n:Nat}{a:Option Addr}{len:Nat}(r:Sl h n 1 (gS a len cap) (strs S))(hj:S[j]?=some s):∃b off,a=some ⟨b,off,none⟩∧b<3*n∧j<len∧At h b (off+j*1) [jy ⟨⟨s⟩⟩]:=by
 have H:=(nN.1 hj).1;have F:=z8 r;obtain ⟨b,off,x,cs,rfl,p,G,A,B,I,C⟩:=r.inv zo;refine ⟨b,off,rfl,p,zo,⟨x,cs,G,A,by show off+j*1+1≤_;omega,?_⟩⟩;show (cs.drop (off+j*1)).take 1=_;have l:(strs S)[j]?=some (jy ⟨⟨s⟩⟩):=by rw [strs,As,hj];rfl
 have f:=qG C l;rw [AH];have g:off+j<gP cs:=zo;rw [List.drop_eq_getElem_cons g];rw [kF g] at f;injection f with f
 rw [f];rfl
def ratP (c:List Value)(q:Rat)(h:HF)(n:Nat):Prop:=∃b a l k d e f g,c=[jx b,gS a l k,jx d,gS e f g]∧IW h n b a l k q.num∧IW h n d e f g (denZ q)
theorem ratP.stay:Stay ratP:=⟨fun _ _ _ _ _ _ ⟨b,a,l,k,d,e,f,g,A,i,j⟩ x p=>⟨b,a,l,k,d,e,f,g,A,i.ext x p,j.ext x p⟩⟩
def QS (h:HF)(n:Nat)(v:Value)(l:List Rat):Prop:=RS 4 ratP h n v l
theorem QS.ext {l:List Rat}(r:QS h n v l)(x:Ext n h h')(a:n≤n'):QS h' n' v l:=RS.ext' ratP.stay r x a
theorem QS.len {a:Option Addr}{len:Nat}{l:List Rat}(r:QS h n (gS a len cap) l):len=gP l:=RS.len' zd r
theorem QS.at {a:Option Addr}{len:Nat}{l:List Rat}(r:QS h n (gS a len cap) l)(hj:l[j]?=some q):∃p off b A B k d e f g,a=some ⟨p,off,none⟩∧p<3*n∧j<len∧At h p (off+j*4) [jx b,gS A B k,jx d,gS e f g]∧IW h n b A B k q.num∧IW h n d e f g (denZ q):=by
 obtain ⟨p,off,c,C,F,G,H,_,b,A,B,k,d,e,f,g,rfl,i,j⟩:=RS.at' zd r hj;exact ⟨p,off,b,A,B,k,d,e,f,g,C,F,G,H,i,j⟩
theorem zjv {x i:Operand}{len sz:Nat}(a:Za X ops t o d (o.op=.indexAddr ty x i∧X.E.und ty=some (.slice e)∧X.E.inf e=some (sz,bt,z)∧evF t x=gS aq len cap∧evF t i=gZ ik (j:Int)∧aq=some ⟨b,off,none⟩))(G:j<len)(k:EO X ops r ⟨upd t d (mo (some ⟨b,off+j*sz,none⟩)),h,n,w⟩ Q):EO X ops (o::r) ⟨t,h,n,w⟩ Q:=by
 obtain ⟨a,g,A,B,C,l,F,p,f⟩:=a;subst f;exact oe ⟨a,g,A,B,C,l,F,p⟩ zo k
section
variable {ld:List (Nat×Nat)}
theorem zjx {x:Operand}{len sz:Nat}(B:zh ops t o=true)(l:o.dst=some d)(p:zv X.nt (some d)=true)(a:o.op=.indexAddr ty x y)(A:X.E.und ty=some (.slice e))(hi:X.E.inf e=some (sz,bt,z))
  (hx:evF t x=gS aq len cap)(hj:evF t y=gZ ik (j:Int))(g:aq=some ⟨b,off,none⟩)(C:j<len)(k:ED X ops r ms (i+1) ⟨⟨upd t d (mo (some ⟨b,off+j*sz,none⟩)),h,n,w⟩,al,ld,ef⟩ Q):ED X ops (o::r) (m::ms) i ⟨⟨t,h,n,w⟩,al,ld,ef⟩ Q:=by
 subst g;refine yQ B l p (by rw [a];rfl) ?_ k;have f:(0:Int)≤(j:Int)∧(j:Int)<(len:Int):=zo;rw [a];show yV X.E ty (evF t x) (evF t y)=_;rw [hx,hj];simp only [yV,A,hi,eS f,wO,A9]
end
theorem QS.x {h h':HF}{n n':Nat}{l:List Rat}(r:QS h n v l)(t:Tx n h n' h'):QS h' n' v l:=r.ext t.2 t.1
theorem At.x {h h':HF}{n n' o:Nat}(a:At h b o c)(t:Tx n h n' h')(hb:b<3*n):At h' b o c:=a.ext t.2 hb
theorem At.lG {h:HF}{o sz:Nat}{r:List Value}(L:List Value)(a:At h b o c)(l:GL.isAgg env ty=some true)(hi:env.inf ty=some (sz,bt,z))(f:c.drop k=L++r)(p:L.length=sz)(A:0<L.length:=by exact Nat.succ_pos _):yB env ty h ⟨b,o+k,none⟩=some (.agg L.toArray):=by
 have g:=congrArg List.length f;rw [List.length_drop,List.length_append] at g;exact a.ld k l hi zo (c':=L) (by rw [f,←p,List.take_left])
theorem At.l2 {h:HF}{o:Nat}{r:List Value}(a:At h b o c)(f:CI env ty=some true)(hi:env.inf ty=some (2,bt,z))(g:c.drop k=x1::x2::r):yB env ty h ⟨b,o+k,none⟩=some (.agg #[x1,x2]):=a.lG [x1,x2] f hi g rfl
theorem At.l3 {h:HF}{o:Nat}{r:List Value}(a:At h b o c)(f:CI env ty=some true)(hi:env.inf ty=some (3,bt,z))(g:c.drop k=x1::x2::x3::r):yB env ty h ⟨b,o+k,none⟩=some (.agg #[x1,x2,x3]):=a.lG [x1,x2,x3] f hi g rfl
theorem At.l4 {h:HF}{o:Nat}{r:List Value}(a:At h b o c)(f:CI env ty=some true)(hi:env.inf ty=some (4,bt,z))(g:c.drop k=x1::x2::x3::x4::r):yB env ty h ⟨b,o+k,none⟩=some (.agg #[x1,x2,x3,x4]):=a.lG [x1,x2,x3,x4] f hi g rfl
theorem At.l11 {h:HF}{o:Nat}{l p A f g:Value}{r:List Value}(a:At h b o c)(B:CI env ty=some true)(hi:env.inf ty=some (11,bt,z))(C:c.drop k=x1::x2::x3::x4::x5::x6::l::p::A::f::g::r):yB env ty h ⟨b,o+k,none⟩=some (.agg #[x1,x2,x3,x4,x5,x6,l,p,A,f,g]):=a.lG [x1,x2,x3,x4,x5,x6,l,p,A,f,g] B hi C rfl
theorem sI {x0 a:Operand}{len sz:Nat}(f:aq=some ⟨b,off,none⟩)(g:j<len)(k:EO X ops r ⟨upd t d (.pointer (some ⟨b,off+j*sz,none⟩)),h,n,w⟩ Q)(l:zh ops t o=true:=by exact rfl)(hd:o.dst=some d:=by exact rfl)(hn:zv X.nt (some d)=true:=by exact rfl)(ho:o.op=.indexAddr ty x0 a:=by exact rfl)(hu:X.E.und ty=some (.slice e):=by exact rfl)(hi:X.E.inf e=some (sz,bt,z):=by exact rfl)(hx:evF t x0=.slice aq len cap:=by exact rfl)(hj:evF t a=.int ik (j:Int):=by exact rfl):EO X ops (o::r) ⟨t,h,n,w⟩ Q:=zjv ⟨l,hd,hn,ho,hu,hi,hx,hj,f⟩ g k
theorem sL {x0:Operand}{f:Nat}(a:At h0 b f c)(hb:b<3*n0)(g:Nat)(k:EO X ops r ⟨upd t d v,h,n,w⟩ Q)(l:zh ops t o=true:=by exact rfl)(hd:o.dst=some d:=by exact rfl)(hn:zv X.nt (some d)=true:=by exact rfl)(ho:o.op=.load ty x0:=by exact rfl)(hx:evF t x0=.pointer (some ⟨b,f+g,none⟩):=by exact rfl)(tx:Tx n0 h0 n h:=by exact zx)(hv:At h b f c→yB X.E ty h ⟨b,f+g,none⟩=some v:=by intro a;first|exact a.ld1 _ rfl rfl|exact a.l1 rfl rfl rfl|exact a.l2 rfl rfl rfl|exact a.l3 rfl rfl rfl|exact a.l4 rfl rfl rfl|exact a.l5 rfl rfl rfl|exact a.l10 rfl rfl rfl|exact a.l11 rfl rfl rfl):EO X ops (o::r) ⟨t,h,n,w⟩ Q:=z7 ⟨l,hd,hn,ho,hx⟩ (hv (a.x tx hb)) k
section
variable {ld:List (Nat×Nat)}
theorem dI {x0 a:Operand}{len sz:Nat}(f:aq=some ⟨b,off,none⟩)(g:j<len)(k:ED X ops r ms (i+1) ⟨⟨upd t d (.pointer (some ⟨b,off+j*sz,none⟩)),h,n,w⟩,al,ld,ef⟩ Q)(l:zh ops t o=true:=by exact rfl)(hd:o.dst=some d:=by exact rfl)(hn:zv X.nt (some d)=true:=by exact rfl)(ho:o.op=.indexAddr ty x0 a:=by exact rfl)(hu:X.E.und ty=some (.slice e):=by exact rfl)(hi:X.E.inf e=some (sz,bt,z):=by exact rfl)(hx:evF t x0=.slice aq len cap:=by exact rfl)(hj:evF t a=.int ik (j:Int):=by exact rfl):ED X ops (o::r) (m::ms) i ⟨⟨t,h,n,w⟩,al,ld,ef⟩ Q:=zjx l hd hn ho hu hi hx hj f g k
theorem dL {x0:Operand}{A f:Nat}(a:At h0 b f c)(hb:b<3*n0)(l:Nat)(k:ED X ops r ms (i+1) ⟨⟨upd t d v,h,n,w⟩,al,(i,b)::ld,ef⟩ Q)(p:zh ops t o=true:=by exact rfl)(hd:o.dst=some d:=by exact rfl)(hn:zv X.nt (some d)=true:=by exact rfl)(ho:o.op=.load ty x0:=by exact rfl)(hx:evF t x0=.pointer (some ⟨b,f+l,none⟩):=by exact rfl){g:HF}(hr:wn m ef i h=(u,g):=by exact rfl)(tx:Tx n0 h0 A g:=by exact zx)(hv:At g b f c→yB X.E ty g ⟨b,f+l,none⟩=some v:=by intro a;first|exact a.ld1 _ rfl rfl|exact a.l1 rfl rfl rfl|exact a.l2 rfl rfl rfl|exact a.l3 rfl rfl rfl|exact a.l4 rfl rfl rfl|exact a.l5 rfl rfl rfl|exact a.l10 rfl rfl rfl|exact a.l11 rfl rfl rfl)(h1:vC u b ef=true:=by exact rfl)(h2:qn m b al=true:=by exact rfl):ED X ops (o::r) (m::ms) i ⟨⟨t,h,n,w⟩,al,ld,ef⟩ Q:=yd ⟨p,hd,hn,ho,hx,hr⟩ (hv (a.x tx hb)) ⟨h1,h2⟩ k
end
section
variable {x:Operand}
theorem un {a b:List UInt8}(c:Bool)(e:Za X ops t o d (o.op=.binOp .eql ty x y ty'∧evF t x=jy ⟨⟨a⟩⟩∧evF t y=jy ⟨⟨b⟩⟩))(j:(a==b)=c)
  (k:EO X ops r ⟨upd t d (jx c),h,n,w⟩ Q):EO X ops (o::r) ⟨t,h,n,w⟩ Q:=by
 obtain ⟨e,g,i,f,l,m⟩:=e;refine zS ⟨e,g,i,(by rw [f];rfl)⟩ ?_ k;rw [f];show binE X.E .eql ty (evF t x) (evF t y)=_;rw [l,m,←j];rfl
theorem zl5 {a b:List UInt8}(c:Bool)(j:zh ops t o=true)(f:o.dst=some d)(g:zv X.nt (some d)=true)(e:o.op=.binOp .neq ty x y ty')(hx:evF t x=jy ⟨⟨a⟩⟩)(l:evF t y=jy ⟨⟨b⟩⟩)(i:(!(a==b))=c)
  (k:EO X ops r ⟨upd t d (jx c),h,n,w⟩ Q):EO X ops (o::r) ⟨t,h,n,w⟩ Q:=by
 refine zS ⟨j,f,g,(by rw [e];rfl)⟩ ?_ k;rw [e];show binE X.E .neq ty (evF t x) (evF t y)=_;rw [hx,l,←i];rfl
def VX (C:CalF)(f:FuncId)(args:List Value)(h:HF)(n:Nat)(P:Value→Prop):Prop:=CF C f args h n fun v h' n' w=>w=[]∧n≤n'∧Ext n h h'∧P v
theorem yR {P:Value→Prop}{e:Ex}{t:TF}{h:HF}{n:Nat}{a f:Tmp}{i:TypeId}(u:Value)(c:rI e=true∧fn.results.toList=[.cell a ty,.tmp f]∧t a=mo (some ⟨b,0,none⟩)∧t f=u∧CI env ty=some true∧env.inf ty=some (sz,bt,z))(hb:h' b=some (.row cs i))(C:gP cs=sz)(p:n≤n')(hx:Ext n h h')(q:P (.tuple #[.agg cs.toArray,u])):RetH fn (fun v h' n' w=>w=[]∧n≤n'∧Ext n h h'∧P v) e ⟨t,h',n',[]⟩:=by
 obtain ⟨c,A,j,g,l,m⟩:=c;refine retH [.agg cs.toArray,u] ⟨c,?_,rfl⟩ ⟨rfl,p,hx,q⟩;rw [A];have B:=yw ⟨l,m⟩ hb rfl (show 0+sz≤gP cs by omega) (show (cs.drop 0).take sz=cs by rw [Av,List.take_of_length_le zo]);simp only [resF,j,g,B]
theorem zev (k:Nat)(h:HF)(n:Nat)(s:List UInt8):VF (cal (k+1)) 198 [jy ⟨⟨s⟩⟩,jy ⟨⟨[45]⟩⟩] h n fun v=>v=jx (z6 s):=by
 refine zO (fn:=Tryz.f198) R4 ?_;refine Zd ?_;cases s with
 |nil=>
  refine zM ?_;refine st_I (ik:=.i64) (a:=0) R5 ?_;refine zM ?_;refine st_I (ik:=.i64) (a:=1) R5 ?_;refine Zb ?_;exact retF _ rfl (zi rfl) R2 rfl
 |cons x s=>
  refine zM ?_;refine st_I (ik:=.i64) (a:=(gP (x::s):Int)) R5 ?_;refine zM ?_;refine st_I (ik:=.i64) (a:=1) R5 ?_;refine jD R6 (by rw [Ao];omega) ?_;refine ZA ?_;refine st_I (ik:=.i64) (a:=1) R5 ?_;refine rq (s:=x::s) (j:=1) R8 gN ?_;refine zM ?_;refine un (a:=[x]) (b:=[45]) (x==45) R6 gN ?_;refine Zb ?_;exact retF _ rfl (zi rfl) R2 (by show jx _=jx _;simp [z6])
theorem zeg (h:z6 s=true):1≤gP s:=by
 unfold z6 at h;cases s with
 |nil=>simp at h
 |cons=>simp
theorem zbv (k:Nat)(h:HF)(n:Nat)(s:List UInt8):VF (cal (k+2)) 167 [jy ⟨⟨s⟩⟩,jy ⟨⟨[45]⟩⟩] h n fun v=>v=.tuple #[jy ⟨⟨xB s⟩⟩,jx (z6 s)]:=by
 refine zO (fn:=Tryz.f167) R4 ?_;refine Zd ?_;refine Zc ?_;refine yi _ R5 (zev k h n s) ?_;rintro _ rfl;by_cases hm:z6 s=true
 ·rw [hm];refine Zl ?_;refine Zc ?_;refine st_I (ik:=.i64) (a:=1) R5 ?_;refine u4 (s:=s) (j:=1) R8 (zeg hm) ?_;refine Zb ?_;refine retF [jy ⟨⟨s.drop 1⟩⟩,jx true] rfl rfl R2 ?_;unfold xB;rw [eS hm];rfl
 rw [Bool.eq_false_iff.2 hm];refine Zq ?_;refine retF [jy ⟨⟨s⟩⟩,jx false] rfl rfl R2 ?_;unfold xB;rw [eP hm];rfl
theorem zfz (k:Nat)(h:HF)(n:Nat)(s:List UInt8):VF (cal (k+3)) 132 [jy ⟨⟨s⟩⟩,jy ⟨⟨[45]⟩⟩] h n fun v=>v=.tuple #[jy ⟨⟨xB s⟩⟩,jx (z6 s)]:=by
 refine zO (fn:=Tryz.f132) R4 ?_;refine Zd ?_;refine Zc ?_;refine yi _ R5 (zbv k h n s) ?_;rintro _ rfl;refine Zb ?_;exact retF [jy ⟨⟨xB s⟩⟩,jx (z6 s)] rfl rfl R2 rfl
theorem zfy (s:List UInt8):∃T D,s.takeWhile dig=T∧s.dropWhile dig=D∧s=T++D∧(∀b∈T,dig b=true)∧(D=[]∨∃x D',D=x::D'∧dig x=false):=by
 refine ⟨_,_,rfl,rfl,Dc.symm,um,?_⟩;cases hd:s.dropWhile dig with
 |nil=>exact .inl rfl
 |cons x D'=>exact .inr ⟨x,D',rfl,by
   have:=List.head?_dropWhile_not dig s;rw [hd] at this;simpa using this⟩
theorem pf (k:Nat)(h:HF)(n:Nat)(s:List UInt8)(I:gP s<1000000):VF (cal (k+1)) 133 [jy ⟨⟨s⟩⟩] h n fun v=>v=.tuple #[jy ⟨⟨s.takeWhile dig⟩⟩,jy ⟨⟨s.dropWhile dig⟩⟩]:=by
 refine zO (fn:=Tryz.f133) R4 ?_;obtain ⟨T,D,A,u,f,p,B⟩:=zfy s;rw [A,u];clear A u;have i:gP s=gP T+gP D:=by rw [f,k0]
 refine Zw ?_;refine ye (α:=Nat) (fun m=>[(0,jy ⟨⟨s⟩⟩),(4,gZ .i64 (m:Int))]) (fun m h' n' w=>h=h'∧n=n'∧w=[]∧m≤gP T) (fun m=>gP T-m) 0 ⟨rfl,rfl,eT⟩ ⟨rfl,rfl,rfl,gH⟩ (by show gP T-0<LL;unfold LL;omega) ?_;rintro m t _ _ _ ⟨rfl,rfl,rfl,H⟩;refine Zn ?_;refine st_I (ik:=.i64) (a:=(gP s:Int)) R5 ?_;have F:∀t':TF,t' 0=jy ⟨⟨s⟩⟩→m=gP T→True:=fun _ _ _=>trivial;by_cases hmT:m=gP T
 ·have e:s.take m=T:=by rw [f,hmT,Hq rfl]
  have c:s.drop m=D:=by rw [f,hmT,D7 rfl]
  rcases B with rfl|⟨x,q,rfl,l⟩
  ·rw [C3] at i;refine Zl ?_;rw [wb rfl];refine Zc ?_;refine rq (s:=s) (j:=m) R8 zo ?_;refine Zc ?_;refine u4 (s:=s) (j:=m) R8 zo ?_;rw [e,c];refine Zb ?_;exact retF [jy ⟨⟨T⟩⟩,jy ⟨⟨[]⟩⟩] rfl rfl R2 rfl
  rw [Ao] at i;have g:s[m]?=some x:=by rw [f,hmT,ux eU,AO];rfl
  have G:¬(48≤x.toNat∧x.toNat≤57):=fun h=>by rw [nh.2 h] at l;cases l
  refine jC R6 zo ?_;refine ZA ?_;refine yH (j:=m) R8 g ?_;by_cases C:48≤x.toNat
  ·refine oa R6 zo ?_;repeat refine zR ?_
   refine yH (j:=m) R8 g ?_;refine Zl ?_;rw [wb rfl];refine Zc ?_;refine rq (s:=s) (j:=m) R8 zo ?_;refine Zc ?_;refine u4 (s:=s) (j:=m) R8 zo ?_;rw [e,c];refine Zb ?_;exact retF [jy ⟨⟨T⟩⟩,jy ⟨⟨x::q⟩⟩] rfl rfl R2 rfl
  refine mD R6 zo ?_;refine Zl ?_;rw [wb rfl];refine Zc ?_;refine rq (s:=s) (j:=m) R8 zo ?_;refine Zc ?_;refine u4 (s:=s) (j:=m) R8 zo ?_;rw [e,c];refine Zb ?_;exact retF [jy ⟨⟨T⟩⟩,jy ⟨⟨x::q⟩⟩] rfl rfl R2 rfl
 obtain ⟨x,l⟩:∃x,T[m]?=some x:=⟨T[m]'zo,kF zo⟩;have g:s[m]?=some x:=by rw [f,AG zo];exact l
 have C:=nh.1 (p x (mp l));refine jC R6 zo ?_;refine ZA ?_;refine yH (j:=m) R8 g ?_;refine oa R6 zo ?_;repeat refine zR ?_
 refine yH (j:=m) R8 g ?_;refine Zq ?_;exact goOn (m+1) (by show gP T-(m+1)<gP T-m;omega) ⟨rfl,rfl,eT⟩ ⟨rfl,rfl,rfl,by show m+1≤_;omega⟩
def spP (mi:Bool)(m r:List UInt8):List UInt8×List UInt8×Bool:=
 if m=[48] then (m,[],!mi&&r.isEmpty)
 else if m=[]∨m.head?=some 48 then (m,[],false)
 else if r=[] then (m,[],true)
 else if r.head?≠some 47 then (m,[],false)
 else (m,(r.drop 1).takeWhile dig,((r.drop 1).dropWhile dig).isEmpty&& !((r.drop 1).takeWhile dig).isEmpty&&((r.drop 1).takeWhile dig).head? != some 48&&(r.drop 1).takeWhile dig != [49])
theorem zl9 (s:List UInt8):spl s=spP (z6 s) ((xB s).takeWhile dig) ((xB s).dropWhile dig):=rfl
theorem eo {x:UInt8}{l:List UInt8}{c:UInt8}(h:x.toNat≠c.toNat):(x::l).head?≠some c:=fun e=>h (by
 have:x=c:=by simpa using e
 rw [this])
theorem cn (k:Nat)(h:HF)(n:Nat)(s:List UInt8)(L:gP s<1000000):VX (cal (k+4)) 73 [jy ⟨⟨s⟩⟩] h n fun v=>v=.tuple #[.agg #[jx (z6 s),jy ⟨⟨(spl s).1⟩⟩,jy ⟨⟨(spl s).2.1⟩⟩],jx (spl s).2.2]:=by
 refine zw (fn:=Tryz.f73) R4 ?_;rw [zl9];have G:=zca s;refine zN ?_;refine xV R5 ?_;refine Zb ?_;refine xV R5 ?_;refine zN ?_;generalize hh:upd (upd h (3*n+2) _) (3*(n+1)+2) _=h1;have a:∃e,h1 (3*n+2)=some (.row [jx false,jy ⟨⟨[]⟩⟩,jy ⟨⟨[]⟩⟩] e):=⟨_,by rw [←hh,zm zo,zg];rfl⟩;have g:∃e,h1 (3*(n+1)+2)=some (.row [jx false,jy ⟨⟨[]⟩⟩,jy ⟨⟨[]⟩⟩] e):=⟨_,by rw [←hh,zg];rfl⟩;obtain ⟨C,a⟩:=a;obtain ⟨F,g⟩:=g;have i:Ext n h h1:=fun b f=>by rw [←hh,zm zo,zm zo]
 clear hh;refine zM ?_;refine yi _ R5 (zfz k h1 (n+1+1) s) ?_;rintro _ rfl;generalize xB s=B at G ⊢;generalize z6 s=mi;refine Zm ?_;refine yF (cs:=[jx mi]) R8 g zb (by show 3*n≤3*(n+1)+2;omega) ?_;refine zN ?_;generalize hh:upd h1 (3*(n+1)+2) _=h2;replace a:h2 (3*n+2)=some (.row [jx false,jy ⟨⟨[]⟩⟩,jy ⟨⟨[]⟩⟩] C):=by rw [←hh,zm zo];exact a
 replace g:h2 (3*(n+1)+2)=some (.row [jx mi,jy ⟨⟨[]⟩⟩,jy ⟨⟨[]⟩⟩] F):=by rw [←hh,zg];rfl
 replace i:Ext n h h2:=fun b f=>by rw [←hh,zm zo,i b f]
 clear hh;refine zM ?_;refine yi _ R5 (pf (k+2) h2 (n+1+1) B zo) ?_;rintro _ rfl;have A:gP (B.dropWhile dig)≤gP B:=(List.dropWhile_sublist dig).length_le;generalize B.takeWhile dig=M;generalize B.dropWhile dig=R at A ⊢;repeat refine zR ?_
 refine yF (cs:=[jy ⟨⟨M⟩⟩]) R8 g zb (by show 3*n≤3*(n+1)+2;omega) ?_;generalize hh:upd h2 (3*(n+1)+2) _=h3;replace a:h3 (3*n+2)=some (.row [jx false,jy ⟨⟨[]⟩⟩,jy ⟨⟨[]⟩⟩] C):=by rw [←hh,zm zo];exact a
 replace g:h3 (3*(n+1)+2)=some (.row [jx mi,jy ⟨⟨M⟩⟩,jy ⟨⟨[]⟩⟩] F):=by rw [←hh,zg];rfl
 replace i:Ext n h h3:=fun b f=>by rw [←hh,zm zo,i b f]
 clear hh;refine Zm ?_;refine zT R6 g (v:=jy ⟨⟨M⟩⟩) R2 ?_;have m:yB env 137 h3 ⟨3*(n+1)+2,0,none⟩=some (.agg #[jx mi,jy ⟨⟨M⟩⟩,jy ⟨⟨[]⟩⟩]):=yw R2 g rfl zb rfl;by_cases h48:M=[48]
 ·refine un true R6 (by rw [h48];rfl) ?_;refine Zt ?_;refine z7 (v:=.agg #[jx mi,jy ⟨⟨M⟩⟩,jy ⟨⟨[]⟩⟩]) R5 m ?_;cases mi with
  |true=>
   repeat refine zR ?_
   refine yc [jx true,jy ⟨⟨M⟩⟩,jy ⟨⟨[]⟩⟩] R8 a rfl (by show 3*n≤3*n+2;omega) ?_;refine Zb ?_;refine yR (jx false) R6 (zg _ _ _) rfl zo (fun b f=>(zm zo).trans (i b f)) ?_;rw [show spP true M R=(M,[],false) from by unfold spP;rw [eS h48];rfl]
  |false=>
   cases R with
   |nil=>
    repeat refine zR ?_
    refine yc [jx false,jy ⟨⟨M⟩⟩,jy ⟨⟨[]⟩⟩] R8 a rfl (by show 3*n≤3*n+2;omega) ?_;refine Zb ?_;refine yR (jx true) R6 (zg _ _ _) rfl zo (fun b f=>(zm zo).trans (i b f)) ?_;rw [show spP false M []=(M,[],true) from by unfold spP;rw [eS h48];rfl]
   |cons z R=>
    repeat refine zR ?_
    refine yc [jx false,jy ⟨⟨M⟩⟩,jy ⟨⟨[]⟩⟩] R8 a rfl (by show 3*n≤3*n+2;omega) ?_;refine Zb ?_;refine yR (jx false) R6 (zg _ _ _) rfl zo (fun b f=>(zm zo).trans (i b f)) ?_;rw [show spP false M (z::R)=(M,[],false) from by unfold spP;rw [eS h48];rfl]
 refine un false R6 (by simpa using h48) ?_;refine Zg ?_;refine Zj ?_;refine zT R6 g (v:=jy ⟨⟨M⟩⟩) R2 ?_;have K:∀t':TF,spP mi M R=(M,[],false)→True:=fun _ _=>trivial;cases M with
 |nil=>
  refine Zt ?_;refine z7 (v:=.agg #[jx mi,jy ⟨⟨[]⟩⟩,jy ⟨⟨[]⟩⟩]) R5 m ?_;refine yc [jx mi,jy ⟨⟨[]⟩⟩,jy ⟨⟨[]⟩⟩] R8 a rfl (by show 3*n≤3*n+2;omega) ?_;refine Zb ?_;refine yR (jx false) R6 (zg _ _ _) rfl zo (fun b f=>(zm zo).trans (i b f)) ?_;rw [show spP mi [] R=([],[],false) from by unfold spP;rw [eP h48,eS (.inl rfl)]]
 |cons y M=>
 repeat refine zR ?_
 refine zT R6 g (v:=jy ⟨⟨y::M⟩⟩) R2 ?_;refine yH (s:=y::M) (j:=0) R8 rfl ?_;by_cases hy:y.toNat=48
 ·have I:y=48:=EU.1 hy;refine Zt ?_;refine z7 (v:=.agg #[jx mi,jy ⟨⟨y::M⟩⟩,jy ⟨⟨[]⟩⟩]) R5 m ?_;refine yc [jx mi,jy ⟨⟨y::M⟩⟩,jy ⟨⟨[]⟩⟩] R8 a rfl (by show 3*n≤3*n+2;omega) ?_;refine Zb ?_;refine yR (jx false) R6 (zg _ _ _) rfl zo (fun b f=>(zm zo).trans (i b f)) ?_;rw [show spP mi (y::M) R=(y::M,[],false) from by unfold spP;rw [eP h48,eS (.inr (by rw [I];rfl))]]
 have q:¬(y::M=[]∨(y::M).head?=some 48):=by
  rintro (h|h)
  ·cases h
  exact eo (c:=48) hy h
 refine Zl ?_;cases R with
 |nil=>
  refine Zt ?_;refine z7 (v:=.agg #[jx mi,jy ⟨⟨y::M⟩⟩,jy ⟨⟨[]⟩⟩]) R5 m ?_;refine yc [jx mi,jy ⟨⟨y::M⟩⟩,jy ⟨⟨[]⟩⟩] R8 a rfl (by show 3*n≤3*n+2;omega) ?_;refine Zb ?_;refine yR (jx true) R6 (zg _ _ _) rfl zo (fun b f=>(zm zo).trans (i b f)) ?_;rw [show spP mi (y::M) []=(y::M,[],true) from by unfold spP;rw [eP h48,eP q,eS rfl]]
 |cons z R=>
 refine Zz ?_;refine yH (s:=z::R) (j:=0) R8 rfl ?_;by_cases hz:z.toNat=47;case neg=>
  refine Zt ?_;refine z7 (v:=.agg #[jx mi,jy ⟨⟨y::M⟩⟩,jy ⟨⟨[]⟩⟩]) R5 m ?_;refine yc [jx mi,jy ⟨⟨y::M⟩⟩,jy ⟨⟨[]⟩⟩] R8 a rfl (by show 3*n≤3*n+2;omega) ?_;refine Zb ?_;refine yR (jx false) R6 (zg _ _ _) rfl zo (fun b f=>(zm zo).trans (i b f)) ?_;rw [show spP mi (y::M) (z::R)=(y::M,[],false) from by unfold spP;rw [eP h48,eP q,eP gN,eS (eo (c:=47) hz)]]
 have H:spP mi (y::M) (z::R)=(y::M,R.takeWhile dig,(R.dropWhile dig).isEmpty&& !(R.takeWhile dig).isEmpty&&(R.takeWhile dig).head? != some 48&&R.takeWhile dig != [49]):=by
  have J:z=47:=EU.1 hz;unfold spP;rw [eP h48,eP q,eP gN,eP (by rw [J];simp)];rfl
 rw [H];rw [Ao] at A;refine Zz ?_;refine u4 (s:=z::R) (j:=1) R8 gN ?_;rw [show (z::R).drop 1=R from rfl];refine yi _ R5 (pf (k+2) h3 (n+1+1) R zo) ?_;rintro _ rfl;generalize R.takeWhile dig=D;generalize R.dropWhile dig=E;repeat refine zR ?_
 refine yF (cs:=[jy ⟨⟨D⟩⟩]) R8 g zb (by show 3*n≤3*(n+1)+2;omega) ?_;generalize hh:upd h3 (3*(n+1)+2) _=h4;replace a:h4 (3*n+2)=some (.row [jx false,jy ⟨⟨[]⟩⟩,jy ⟨⟨[]⟩⟩] C):=by rw [←hh,zm zo];exact a
 replace g:h4 (3*(n+1)+2)=some (.row [jx mi,jy ⟨⟨y::M⟩⟩,jy ⟨⟨D⟩⟩] F):=by rw [←hh,zg];rfl
 replace i:Ext n h h4:=fun b f=>by rw [←hh,zm zo,i b f]
 clear hh m;refine Zb ?_;refine zl [0,0,2,6,14,30,62,126,254,510,1022,2046,4094,8190,16382,32766,65534,131070,262142,32767,1048575] rfl ?_;refine yd (v:=.agg #[jx mi,jy ⟨⟨y::M⟩⟩,jy ⟨⟨D⟩⟩]) R6 (yw R2 g rfl zb rfl) R2 ?_;cases E with
 |cons x E=>
  repeat (first|refine yd R6 (zX rfl g R2) R2 ?_|refine zD ?_)
  refine uT (cs:=[jx mi,jy ⟨⟨y::M⟩⟩,jy ⟨⟨D⟩⟩]) R8 a zb (by show 3*n≤3*n+2;omega) rfl rfl rfl ?_;repeat refine zD ?_
  refine zN ?_;exact yR (jx false) (cs:=[jx mi,jy ⟨⟨y::M⟩⟩,jy ⟨⟨D⟩⟩]) R6 (zg _ _ _) rfl zo (fun b f=>(zm zo).trans (i b f)) rfl
 |nil=>
 cases D with
 |nil=>
  repeat (first|refine yd R6 (zX rfl g R2) R2 ?_|refine zD ?_)
  refine uT (cs:=[jx mi,jy ⟨⟨y::M⟩⟩,jy ⟨⟨[]⟩⟩]) R8 a zb (by show 3*n≤3*n+2;omega) rfl rfl rfl ?_;repeat refine zD ?_
  refine zN ?_;exact yR (jx false) (cs:=[jx mi,jy ⟨⟨y::M⟩⟩,jy ⟨⟨[]⟩⟩]) R6 (zg _ _ _) rfl zo (fun b f=>(zm zo).trans (i b f)) rfl
 |cons u D=>
 by_cases hu:u.toNat=48
 ·have p:u=48:=EU.1 hu;repeat (first|refine yd R6 (zX rfl g R2) R2 ?_|refine zD ?_)
  refine uT (cs:=[jx mi,jy ⟨⟨y::M⟩⟩,jy ⟨⟨u::D⟩⟩]) R8 a zb (by show 3*n≤3*n+2;omega) rfl rfl rfl ?_;repeat refine zD ?_
  refine zN ?_;refine yR (jx false) (cs:=[jx mi,jy ⟨⟨y::M⟩⟩,jy ⟨⟨u::D⟩⟩]) R6 (zg _ _ _) rfl zo (fun b f=>(zm zo).trans (i b f)) ?_;rw [p];rfl
 have p:((u::D).head? != some 48)=true:=by
  have:=eo (l:=D) (c:=48) hu;simpa using this
 repeat (first|refine yd R6 (zX rfl g R2) R2 ?_|refine zD ?_)
 refine uT (cs:=[jx mi,jy ⟨⟨y::M⟩⟩,jy ⟨⟨u::D⟩⟩]) R8 a zb (by show 3*n≤3*n+2;omega) rfl rfl (fR (by intro x i;simp at i;rcases i with rfl|rfl|rfl|rfl<;>show 3*(n+1)+2≠3*n+2<;>omega)) ?_;repeat refine zD ?_
 refine zN ?_;refine yR (jx (u::D != [49])) (cs:=[jx mi,jy ⟨⟨y::M⟩⟩,jy ⟨⟨u::D⟩⟩]) R6 (zg _ _ _) rfl zo (fun b f=>(zm zo).trans (i b f)) ?_;rw [p];rfl
end
def dotR:List Rat→List Rat→Rat
 |x::xs,y::ys=>x*y+dotR xs ys
 |_,_=>0
theorem kV (ys:List Rat):dotR [] ys=0:=by cases ys<;>rfl
theorem zfp:∀{xs ys:List Rat} {x y:Rat},gP xs=gP ys→dotR (xs++[x]) (ys++[y])=dotR xs ys+x*y:=by
 intro xs;induction xs with
 |nil=>
  intro ys x y h;cases ys with
  |nil=>show x*y+0=0+x*y;rw [Rat.add_zero,Rat.zero_add]
  |cons _ _=>cases h
 |cons a xs ih=>
  intro ys x y h;cases ys with
  |nil=>cases h
  |cons b ys=>
   show a*b+dotR (xs++[x]) (ys++[y])=a*b+dotR xs ys+x*y;rw [ih (by simpa using h),Rat.add_assoc]
theorem xa {l:List α}{d:α}(h:l[j]?=some d):l.take (j+1)=l.take j++[d]:=by
 rw [List.take_add_one,h];rfl
theorem wK {x y:Rat}(hx:xs[j]?=some x)(c:ys[j]?=some y):dotR (xs.take (j+1)) (ys.take (j+1))=dotR (xs.take j) (ys.take j)+x*y:=by
 rw [xa hx,xa c];have d:=(nN.1 hx).1;have e:=(nN.1 c).1;exact zfp (by rw [sn,sn];omega)
theorem nf (hx:∀q∈xs,Sz a q)(e:∀q∈ys,Sz b q):∀j,j≤gP xs→j≤gP ys→Sz (1+j*(a+b+1)) (dotR (xs.take j) (ys.take j)):=by
 intro j;induction j with
 |zero=>intro _ _;rw [List.take_zero,kV];exact Sz.zero _ zo
 |succ j ih=>
  intro f g;have c:=kF (l:=xs) (i:=j) zo;have d:=kF (l:=ys) (i:=j) zo;rw [wK c d];refine ((ih zo zo).add ((hx _ (mp c)).mul (e _ (mp d)))).mono ?_;rw [Bo];omega
theorem zo5 (k:Nat)(h:HF)(n:Nat)(s:List UInt8)(e:gP s<1000000):CX (cal (k+4)) 73 [jy ⟨⟨s⟩⟩] h n fun v _ _=>∃neg m d ok,v=.tuple #[.agg #[jx neg,jy ⟨⟨m⟩⟩,jy ⟨⟨d⟩⟩],jx ok]∧neg=z6 s∧spl s=(m,d,ok):=by
 refine wc (cn k h n s e) ?_;rintro v f g w ⟨a,b,c,rfl⟩;exact ⟨a,b,c,_,_,_,_,rfl,rfl,rfl⟩
theorem zd2 (k:Nat)(h:HF)(n:Nat)(m:AllD s)(j:gP s≤570):CX (cal (k+6)) 74 [jy ⟨⟨s⟩⟩] h n (IV ((dval s:Nat):Int)):=by
 refine wc (zd3 k h n m j) ?_;rintro v o p w ⟨a,l,c,L,rfl,⟨b,d,e,f,g⟩,i⟩;refine ⟨b,d,e,_,_,_,_,rfl,?_,L,f,g,?_⟩
 ·rw [cA];omega
 rw [i];omega
theorem Frm.len {m d:List UInt8}(h:Frm s m d):gP m≤gP s∧gP d≤gP s:=by
 have:=congrArg gP h.eq;simp only [k0] at this;refine ⟨zo,?_⟩;by_cases hd:d=[]
 ·subst hd;exact CO _
 rw [eP hd,Ao] at this;omega
theorem kQ {m:List UInt8}(h:AllD m)(a:gP m≤600):((dval m:Nat):Int).natAbs<BW:=by
 rw [qe];refine Af (qy h) (Aa (sN zd a) ?_);unfold BW;decide+kernel
theorem zc9 {m d:List UInt8}(h:spl s=(m,d,false)):¬vF s:=by
 rw [oP,h];rintro ⟨a,_⟩;cases a
theorem vR {m d:List UInt8}(h:spl s=(m,d,true))(c:d=[]):vF s∧(zj s).num=(if z6 s then -(dval m:Int) else dval m)∧denZ (zj s)=0:=by
 obtain ⟨q,a,e,b⟩:=(rZ h).rat (.inl c);rw [pA a];rw [eS c] at b;exact ⟨⟨q,a⟩,e,yr.2 b⟩
theorem tk {m d:List UInt8}(h:spl s=(m,d,true))(c:¬d=[])(l:rp (dval m) (dval d)=1):vF s∧(zj s).num=(if z6 s then -(dval m:Int) else dval m)∧denZ (zj s)=((dval d:Nat):Int):=by
 have f:=rZ h;obtain ⟨q,g,i,a⟩:=f.rat (.inr l);rw [pA g];rw [eP c] at a;refine ⟨⟨q,g⟩,i,?_⟩;rw [←a];refine wq (mt yr.1 fun e=>?_);rcases f.den with b|⟨b,j⟩
 ·exact c b
 have:=qC f.dd c b;rw [←a,e,ag] at this;exact j this.symm
theorem qp {m d:List UInt8}(h:spl s=(m,d,true))(b:¬d=[])(c:¬rp (dval m) (dval d)=1):¬vF s:=by
 rw [oP,h];rintro ⟨_,a|a⟩
 ·exact b a
 exact c a
def TL (s:List UInt8):Prop:=gP s<1000000∧∀m d,spl s=(m,d,true)→gP m≤570∧gP d≤570
theorem TL.of (h:gP s<500):TL s:=⟨zo,fun m d e=>by have:=(rZ e).len;omega⟩
theorem zpj (k:Nat)(g:GG h n)(hs:TL s):CX (cal (k+9)) 105 [jy ⟨⟨s⟩⟩] h n fun v h' n'=>∃b a l c d e f g ok,v=.tuple #[.agg #[jx b,gS a l c,jx d,gS e f g],jx ok]∧IW h' n' b a l c (zj s).num∧IW h' n' d e f g (denZ (zj s))∧(ok=true↔vF s):=by
 refine zw (fn:=Tryz.f105) R4 ?_;refine Zi ?_;intro ab bq c8;refine zG ?_;refine sC (zo5 _ _ _ s hs.1) ?_;rintro _ ac b5 ⟨q,U,F,Z,rfl,z12,i⟩ cl c9;cases Z
 ·refine Zi ?_;intro ad br ca;refine sS [jx q,jy ⟨⟨U⟩⟩,jy ⟨⟨F⟩⟩] ?_;intro ae bs bd;refine zG ?_;refine sT #[jx false,gS none 0 0,jx false,gS none 0 0] ?_;refine sS [jx false,gS none 0 0,jx false,gS none 0 0] ?_;intro af bt be;refine zq ?_;exact ⟨_,_,_,_,_,_,_,_,_,rfl,(IW.zero _ _).as (by rw [xX (zc9 i)];rfl),(IW.zero _ _).as (by rw [xX (zc9 i)];rfl),⟨fun m=>(by cases m),fun m=>eN m (zc9 i)⟩⟩
 have j:=rZ i;have a2:=hs.2 _ _ i;refine Zi ?_;intro ag bu cb;refine sS [jx q,jy ⟨⟨U⟩⟩,jy ⟨⟨F⟩⟩] ?_;intro ah bv bf;refine zG ?_;refine sC (zd2 _ _ _ j.dm zo) ?_;rintro _ ai V ⟨w,u,A,y,rfl,G⟩ cm cc;refine sT #[jx w,gS u A y,jx false,gS none 0 0] ?_;refine sA ?_;intro aj bw cd;refine sS [jx w,gS u A y,jx false,gS none 0 0] ?_;intro ak bx bg;refine zG ?_;cases q
 ·refine zG ?_;by_cases q21:F=[]
  ·refine un true R6 (by simp [q21]) ?_;refine zG ?_;refine sS [jx w,gS u A y,jx false,gS none 0 0] ?_;intro al bz bh;refine zq ?_;exact ⟨_,_,_,_,_,_,_,_,_,rfl,(G.t zt).as (by rw [(vR i q21).2.1,←z12];rfl),(IW.zero _ _).as (vR i q21).2.2.symm,⟨fun _=>(vR i q21).1,fun _=>rfl⟩⟩
  refine un false R6 (by simp [q21]) ?_;refine zG ?_;refine sC (zd2 _ _ _ j.dd zo) ?_;rintro _ am b6 ⟨L,J,S,N,rfl,P⟩ cn ce;refine zG ?_;refine sS (b:=3*V+2) (off:=2) [jx w,gS u A y,jx L,gS J S N] ?_;intro an c0 bi;refine zG ?_;refine sC (gcdX _ (g.x zx) (G.t zt) (P.t zt) (kQ j.dm zo) (kQ j.dd zo)) ?_;rintro _ ao b7 ⟨a5,a3,b3,a9,rfl,a0⟩ co cf;refine sC (tU _ a0) ?_;rintro _ ap b8 ⟨a6,rfl,W⟩ cp cg;rcases bvs W with ⟨rfl,o⟩|⟨rfl,o⟩
  ·refine zG ?_;refine sT #[jx false,gS none 0 0,jx false,gS none 0 0] ?_;refine sS [jx false,gS none 0 0,jx false,gS none 0 0] ?_;intro aq c1 bj;refine zq ?_;exact ⟨_,_,_,_,_,_,_,_,_,rfl,(IW.zero _ _).as (by rw [xX (qp i q21 (by have:=o;simp only [AM,qe] at this;omega))];rfl),(IW.zero _ _).as (by rw [xX (qp i q21 (by have:=o;simp only [AM,qe] at this;omega))];rfl),⟨fun m=>(by cases m),fun m=>eN m (qp i q21 (by have:=o;simp only [AM,qe] at this;omega))⟩⟩
  refine zG ?_;refine sS [jx w,gS u A y,jx L,gS J S N] ?_;intro ar c2 bk;refine zq ?_;exact ⟨_,_,_,_,_,_,_,_,_,rfl,(G.t zt).as (by rw [(tk i q21 (by have:=o;simp only [AM,qe] at this;omega)).2.1,←z12];rfl),(P.t zt).as (tk i q21 (by have:=o;simp only [AM,qe] at this;omega)).2.2.symm,⟨fun _=>(tk i q21 (by have:=o;simp only [AM,qe] at this;omega)).1,fun _=>rfl⟩⟩
 refine zG ?_;refine sC (negX _ (G.t zt)) ?_;rintro _ au b9 ⟨C,B,H,D,rfl,I⟩ cq ch;refine zG ?_;refine sS [jx C,gS B H D,jx false,gS none 0 0] ?_;intro av c3 bl;refine zG ?_;by_cases q31:F=[]
 ·refine un true R6 (by simp [q31]) ?_;refine zG ?_;refine sS [jx C,gS B H D,jx false,gS none 0 0] ?_;intro aw c4 bm;refine zq ?_;exact ⟨_,_,_,_,_,_,_,_,_,rfl,(I.t zt).as (by rw [(vR i q31).2.1,←z12];rfl),(IW.zero _ _).as (vR i q31).2.2.symm,⟨fun _=>(vR i q31).1,fun _=>rfl⟩⟩
 refine un false R6 (by simp [q31]) ?_;refine zG ?_;refine sC (zd2 _ _ _ j.dd zo) ?_;rintro _ ax ba ⟨M,K,T,O,rfl,R⟩ cr ci;refine zG ?_;refine sS (b:=3*V+2) (off:=2) [jx C,gS B H D,jx M,gS K T O] ?_;intro ay c5 bn;refine zG ?_;refine sC (gcdX _ (g.x zx) (I.t zt) (R.t zt) (by rw [AM];exact (kQ j.dm zo)) (kQ j.dd zo)) ?_;rintro _ az bb ⟨a7,a4,b4,aa,rfl,a1⟩ cs cj;refine sC (tU _ a1) ?_;rintro _ b0 bc ⟨a8,rfl,Y⟩ ct ck;rcases bvs Y with ⟨rfl,p⟩|⟨rfl,p⟩
 ·refine zG ?_;refine sT #[jx false,gS none 0 0,jx false,gS none 0 0] ?_;refine sS [jx false,gS none 0 0,jx false,gS none 0 0] ?_;intro b1 c6 bo;refine zq ?_;exact ⟨_,_,_,_,_,_,_,_,_,rfl,(IW.zero _ _).as (by rw [xX (qp i q31 (by have:=p;simp only [AM,qe] at this;omega))];rfl),(IW.zero _ _).as (by rw [xX (qp i q31 (by have:=p;simp only [AM,qe] at this;omega))];rfl),⟨fun m=>(by cases m),fun m=>eN m (qp i q31 (by have:=p;simp only [AM,qe] at this;omega))⟩⟩
 refine zG ?_;refine sS [jx C,gS B H D,jx M,gS K T O] ?_;intro b2 c7 bp;refine zq ?_;exact ⟨_,_,_,_,_,_,_,_,_,rfl,(I.t zt).as (by rw [(tk i q31 (by have:=p;simp only [AM,qe] at this;omega)).2.1,←z12];rfl),(R.t zt).as (tk i q31 (by have:=p;simp only [AM,qe] at this;omega)).2.2.symm,⟨fun _=>(tk i q31 (by have:=p;simp only [AM,qe] at this;omega)).1,fun _=>rfl⟩⟩
theorem zpk (k:Nat)(g:GG h n)(m:gP s<500):CX (cal (k+9)) 105 [jy ⟨⟨s⟩⟩] h n fun v i j=>∃b a l c d e f g ok,v=.tuple #[.agg #[jx b,gS a l c,jx d,gS e f g],jx ok]∧IW i j b a l c (zj s).num∧IW i j d e f g (denZ (zj s))∧(ok=true↔vF s):=zpj k g (.of m)
def bdOk (s:List UInt8):Prop:=s=[]∨vF s
theorem so:¬vF []:=by
 rw [oP];rintro ⟨h,_⟩;revert h;decide
def pairOk (lo hi:List UInt8):Prop:=bdOk lo∧bdOk hi∧(lo=[]∨hi=[]∨zj lo≤zj hi)
theorem qi (k:Nat)(g:GG h n)(hs:gP s<500):CX (cal (k+10)) 137 [jy ⟨⟨s⟩⟩] h n fun v F G=>∃x b a l c d e f g ok,v=.tuple #[.agg #[jx x,jx b,gS a l c,jx d,gS e f g],jx ok]∧(x=true↔s≠[])∧IW F G b a l c (zj s).num∧IW F G d e f g (denZ (zj s))∧(ok=true↔bdOk s):=by
 refine zw (fn:=Tryz.f137) R4 ?_;refine Zi ?_;intro I Z a7;refine zG ?_;by_cases q12:s=[]
 ·refine un true R6 (by simp [q12]) ?_;refine zG ?_;refine sT #[jx false,jx false,gS none 0 0,jx false,gS none 0 0] ?_;refine sS [jx false,jx false,gS none 0 0,jx false,gS none 0 0] ?_;intro J a0 T;refine zq ?_;exact ⟨_,_,_,_,_,_,_,_,_,_,rfl,⟨fun i=>(by cases i),fun i=>eN q12 i⟩,(IW.zero _ _).as (by rw [q12,xX so];rfl),(IW.zero _ _).as (by rw [q12,xX so];rfl),⟨fun _=>.inl q12,fun _=>rfl⟩⟩
 refine un false R6 (by simp [q12]) ?_;refine zG ?_;refine sC (zpk _ (g.x zx) hs) ?_;rintro _ K S ⟨m,j,y,o,p,q,u,w,H,rfl,B,C,D⟩ ab a8;rcases bvs D with ⟨rfl,A⟩|⟨rfl,A⟩
 ·refine Zi ?_;intro L a1 a9;refine sS [jx m,gS j y o,jx p,gS q u w] ?_;intro M a2 U;refine zG ?_;refine sT #[jx true,jx m,gS j y o,jx p,gS q u w] ?_;refine zG ?_;refine sS [jx true,jx m,gS j y o,jx p,gS q u w] ?_;intro N a3 V;refine zq ?_;exact ⟨_,_,_,_,_,_,_,_,_,_,rfl,⟨fun _=>q12,fun _=>rfl⟩,(B.t zt),(C.t zt),⟨fun i=>(by cases i),fun i=>by rcases i with i|i;exact eN i q12;exact eN i A⟩⟩
 refine Zi ?_;intro O a4 aa;refine sS [jx m,gS j y o,jx p,gS q u w] ?_;intro P a5 W;refine zG ?_;refine sT #[jx true,jx m,gS j y o,jx p,gS q u w] ?_;refine zG ?_;refine sS [jx true,jx m,gS j y o,jx p,gS q u w] ?_;intro R a6 Y;refine zq ?_;exact ⟨_,_,_,_,_,_,_,_,_,_,rfl,⟨fun _=>q12,fun _=>rfl⟩,(B.t zt),(C.t zt),⟨fun _=>.inr A,fun _=>rfl⟩⟩
theorem jP (k:Nat)(g:GG h n){lo hi:List UInt8}(a8:gP lo<500)(a3:gP hi<500)(ab:Sz a (zj lo))(aa:Sz b (zj hi))(b8:a+b≤2496):CX (cal (k+11)) 80 [jy ⟨⟨lo⟩⟩,jy ⟨⟨hi⟩⟩] h n fun v R S=>∃x1 b1 a1 l1 c1 d1 e1 f1 g1 x2 b2 a2 l2 c2 d2 e2 f2 g2 ok,v=.tuple #[.agg #[gS none 0 0,jx x1,jx b1,gS a1 l1 c1,jx d1,gS e1 f1 g1,jx x2,jx b2,gS a2 l2 c2,jx d2,gS e2 f2 g2],jx ok]∧(ok=true↔pairOk lo hi)∧(ok=true→(x1=true↔lo≠[])∧IW R S b1 a1 l1 c1 (zj lo).num∧IW R S d1 e1 f1 g1 (denZ (zj lo))∧(x2=true↔hi≠[])∧IW R S b2 a2 l2 c2 (zj hi).num∧IW R S d2 e2 f2 g2 (denZ (zj hi))):=by
 refine zw (fn:=Tryz.f80) R4 ?_;refine Zi ?_;intro af bt cj;refine zG ?_;refine sC (qi _ (g.x zx) a8) ?_;rintro _ ag bb ⟨O,f,d,B,j,m,p,u,y,ac,rfl,I,K,M,a5⟩ cu ck;rcases bvs a5 with ⟨rfl,F⟩|⟨rfl,F⟩
 ·refine Zi ?_;intro ah bu cl;refine sS [jx O,jx f,gS d B j,jx m,gS p u y] ?_;intro ai bv bf;refine zG ?_;refine sC (qi _ (g.x zx) a3) ?_;rintro _ aj bc ⟨P,U,T,a4,V,W,Y,Z,a0,ad,rfl,ci,b9,ba,a6⟩ cv cm;rcases bvs a6 with ⟨rfl,a9⟩|⟨rfl,a9⟩
  ·refine Zi ?_;intro ak bw cn;refine sS [jx P,jx U,gS T a4 V,jx W,gS Y Z a0] ?_;intro al bx bg;refine zG ?_;refine sT #[gS none 0 0,jx false,jx false,gS none 0 0,jx false,gS none 0 0,jx false,jx false,gS none 0 0,jx false,gS none 0 0] ?_;refine sS [gS none 0 0,jx false,jx false,gS none 0 0,jx false,gS none 0 0,jx false,jx false,gS none 0 0,jx false,gS none 0 0] ?_;intro am bz bh;refine zq ?_;exact ⟨_,_,_,_,_,_,_,_,_,_,_,_,_,_,_,_,_,_,_,rfl,⟨fun c=>(by cases c),fun c=>eN c.1 F⟩,fun c=>(by cases c)⟩
  refine Zi ?_;intro an c0 co;refine sS [jx P,jx U,gS T a4 V,jx W,gS Y Z a0] ?_;intro ao c3 bi;refine zG ?_;refine sT #[gS none 0 0,jx false,jx false,gS none 0 0,jx false,gS none 0 0,jx false,jx false,gS none 0 0,jx false,gS none 0 0] ?_;refine sS [gS none 0 0,jx false,jx false,gS none 0 0,jx false,gS none 0 0,jx false,jx false,gS none 0 0,jx false,gS none 0 0] ?_;intro ap c4 bj;refine zq ?_;exact ⟨_,_,_,_,_,_,_,_,_,_,_,_,_,_,_,_,_,_,_,rfl,⟨fun c=>(by cases c),fun c=>eN c.1 F⟩,fun c=>(by cases c)⟩
 refine Zi ?_;intro aq c5 cp;refine sS [jx O,jx f,gS d B j,jx m,gS p u y] ?_;intro ar c6 bk;refine zG ?_;refine sC (qi _ (g.x zx) a3) ?_;rintro _ au bd ⟨D,i,e,C,l,o,q,w,A,ae,rfl,J,L,N,a7⟩ cw cq;rcases bvs a7 with ⟨rfl,H⟩|⟨rfl,H⟩
 ·refine Zi ?_;intro av c7 cr;refine sS [jx D,jx i,gS e C l,jx o,gS q w A] ?_;intro aw c8 bl;refine zG ?_;refine sT #[gS none 0 0,jx false,jx false,gS none 0 0,jx false,gS none 0 0,jx false,jx false,gS none 0 0,jx false,gS none 0 0] ?_;refine sS [gS none 0 0,jx false,jx false,gS none 0 0,jx false,gS none 0 0,jx false,jx false,gS none 0 0,jx false,gS none 0 0] ?_;intro ax c9 bm;refine zq ?_;exact ⟨_,_,_,_,_,_,_,_,_,_,_,_,_,_,_,_,_,_,_,rfl,⟨fun c=>(by cases c),fun c=>eN c.2.1 H⟩,fun c=>(by cases c)⟩
 refine Zi ?_;intro ay ca cs;refine sS [jx D,jx i,gS e C l,jx o,gS q w A] ?_;intro az cb bn;refine zG ?_;cases O
 ·refine zG ?_;refine sT #[gS none 0 0,jx false,jx f,gS d B j,jx m,gS p u y,jx D,jx i,gS e C l,jx o,gS q w A] ?_;refine sS [gS none 0 0,jx false,jx f,gS d B j,jx m,gS p u y,jx D,jx i,gS e C l,jx o,gS q w A] ?_;intro b0 cc bo;refine zq ?_;exact ⟨_,_,_,_,_,_,_,_,_,_,_,_,_,_,_,_,_,_,_,rfl,⟨fun _=>⟨F,H,.inl (tp fun c=>by cases I.2 c)⟩,fun _=>rfl⟩,fun _=>⟨I,(K.t zt),(M.t zt),J,(L.t zt),(N.t zt)⟩⟩
 refine zG ?_;cases D
 ·refine zG ?_;refine sT #[gS none 0 0,jx true,jx f,gS d B j,jx m,gS p u y,jx false,jx i,gS e C l,jx o,gS q w A] ?_;refine sS [gS none 0 0,jx true,jx f,gS d B j,jx m,gS p u y,jx false,jx i,gS e C l,jx o,gS q w A] ?_;intro b3 cd bp;refine zq ?_;exact ⟨_,_,_,_,_,_,_,_,_,_,_,_,_,_,_,_,_,_,_,rfl,⟨fun _=>⟨F,H,.inr (.inl (tp fun c=>by cases J.2 c))⟩,fun _=>rfl⟩,fun _=>⟨I,(K.t zt),(M.t zt),J,(L.t zt),(N.t zt)⟩⟩
 refine zG ?_;refine sC ((xp _ (K.t zt) (M.t zt) (L.t zt) (N.t zt) ab aa zo).cx) ?_;rintro _ b4 be ⟨ch,rfl,G⟩ cy ct;rcases G with ⟨rfl,G⟩|⟨rfl,G⟩|⟨rfl,G⟩
 ·refine zG ?_;refine sT #[gS none 0 0,jx true,jx f,gS d B j,jx m,gS p u y,jx true,jx i,gS e C l,jx o,gS q w A] ?_;refine sS [gS none 0 0,jx true,jx f,gS d B j,jx m,gS p u y,jx true,jx i,gS e C l,jx o,gS q w A] ?_;intro b5 ce bq;refine zq ?_;exact ⟨_,_,_,_,_,_,_,_,_,_,_,_,_,_,_,_,_,_,_,rfl,⟨fun _=>⟨F,H,.inr (.inr (Rat.le_of_lt G))⟩,fun _=>rfl⟩,fun _=>⟨I,(K.t zt),(M.t zt),J,(L.t zt),(N.t zt)⟩⟩
 ·refine zG ?_;refine sT #[gS none 0 0,jx true,jx f,gS d B j,jx m,gS p u y,jx true,jx i,gS e C l,jx o,gS q w A] ?_;refine sS [gS none 0 0,jx true,jx f,gS d B j,jx m,gS p u y,jx true,jx i,gS e C l,jx o,gS q w A] ?_;intro b6 cf br;refine zq ?_;exact ⟨_,_,_,_,_,_,_,_,_,_,_,_,_,_,_,_,_,_,_,rfl,⟨fun _=>⟨F,H,.inr (.inr (by rw [G];exact Rat.le_refl))⟩,fun _=>rfl⟩,fun _=>⟨I,(K.t zt),(M.t zt),J,(L.t zt),(N.t zt)⟩⟩
 refine zG ?_;refine sT #[gS none 0 0,jx false,jx false,gS none 0 0,jx false,gS none 0 0,jx false,jx false,gS none 0 0,jx false,gS none 0 0] ?_;refine sS [gS none 0 0,jx false,jx false,gS none 0 0,jx false,gS none 0 0,jx false,jx false,gS none 0 0,jx false,gS none 0 0] ?_;intro b7 cg bs;refine zq ?_;exact ⟨_,_,_,_,_,_,_,_,_,_,_,_,_,_,_,_,_,_,_,rfl,⟨fun c=>(by cases c),fun c=>by rcases c.2.2 with c|c|c;exact eN c (I.1 rfl);exact eN c (J.1 rfl);exact eN c (Rat.not_le.2 G)⟩,fun c=>(by cases c)⟩
end Go.Proofs.YtepkmadmigkgmaaGreatDoor
