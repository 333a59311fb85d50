import Derived.Test.YtepkmadmigkgmaaGreatDoorOptC
open Bool renaming and_eq_true→AA,and_self→AV,false_ne_true→Ba,or_self→GW
open Classical renaming byContradiction→tp
open Go.IntKind renaming bits→BJ,wrap→Ai
open Go.Value renaming bool→jx,int→gZ,pointer→mo,slice→gS,string→jy
open Int renaming add_zero→E1,lt_trichotomy→DH,mul_tdiv_cancel_left→Fs,mul_zero→Dq,natAbs_mul→AF,natAbs_natCast→qe,natAbs_neg→AM,natCast_mul→Br,natCast_nonneg→Dn,not_lt→FB,ofNat_dvd_left→CA,ofNat_le→GV,one_mul→F5,tdiv_one→C7,toNat_natCast→A9,zero_mul→C8
open List renaming all_append→FK,all_eq_true→BP,append_assoc→Ak,append_nil→Am,drop_eq_getElem_cons→Bw,drop_length→BE,drop_succ_cons→EW,drop_zero→Av,getElem?_append_left→AG,getElem?_eq_getElem→kF,getElem?_eq_none→Ae,getElem?_eq_some_iff→nN,getElem?_map→As,getElem?_set_ne→F3,getElem?_take_of_lt→BA,length→gP,length_append→k0,length_drop→sa,length_eq_zero_iff→vT,length_map→mu,length_replicate→ru,length_set→Bb,length_singleton→nP,length_take→sn,map_append→AP,map_cons→C9,mem_append→AY,mem_cons→Ad,mem_cons_of_mem→Bz,mem_cons_self→AR,mem_map→AZ,mem_of_getElem?→mp,mem_of_mem_drop→Bq,mem_of_mem_take→AB,mem_singleton→qq,nil_append→Au,not_mem_nil→og,replicate→ns,replicate_succ'→CD,set_cons_zero→Ea,take_append→G7,take_append_of_le_length→Bu,take_length→xd,take_of_length_le→pq,take_succ_cons→Gg,take_zero→By
open Nat renaming add_assoc→EB,add_comm→Bj,add_sub_cancel→BM,add_sub_cancel_left→BD,add_zero→AJ,beq→AD,ble→Ag,ble_eq_true_of_le→oo,div_div_eq_div_mul→CN,div_le_self→A3,div_lt_of_lt_mul→EK,div_one→EI,dvd_trans→Fr,eq_of_beq_eq_true→Ay,gcd→rp,gcd_comm→Cp,gcd_dvd_left→B5,gcd_dvd_right→B9,gcd_pos_of_pos_right→A6,lcm→Fp,le_mul_of_pos_right→BG,le_of_ble_eq_true→tu,le_of_dvd→EE,le_refl→AL,le_succ→Al,le_trans→Aa,lt_of_le_of_lt→Aj,lt_of_lt_of_le→Af,lt_or_ge→Bi,lt_trans→EZ,min_eq_left→AN,mod_eq_of_lt→Ab,mod_lt→Az,mul_comm→pe,mul_le_mul→Ar,mul_le_mul_right→o0,mul_one→AH,mul_pos→CP,mul_right_comm→Do,mul_zero→Bp,not_lt_zero→AQ,one_mul→BR,pos_of_ne_zero→CT,pow_add→Bf,pow_le_pow_right→sN,pow_pos→AW,pow_succ→Ac,pow_zero→BL,sub_self→AO,sub_zero→C5,succ_mul→Bo,zero_add→sb,zero_le→CO,zero_mul→Bg
open Option renaming isSome_none→Fa
open Or renaming inl→HI
open Rat renaming add_zero→DW,den_inv→Hl,divInt→AK,divInt_eq_div→Bs,divInt_ofNat→Fy,div_def→DO,intCast_mul→AC,intCast_natCast→Bn,intCast_pos→Cc,le_of_lt→Bc,lt_irrefl→Ca,mul_assoc→Dy,mul_comm→Cd,mul_nonneg→DQ,mul_one→DP,mul_pos→BZ,not_le→B7,not_lt→CV,zero_divInt→Ht
open UInt8 renaming ofNat→Bd
set_option maxHeartbeats 8000000
set_option linter.unusedVariables false
set_option linter.unusedSimpArgs false
namespace Go.Proofs.YtepkmadmigkgmaaGreatDoor
open Go Go.GL
variable {ops r:List Oper}{w ms W C:List Nat}{cap m sz j b i n0 bt cx lx l bytes B cy ly L a bs fx gx lo' U fy gy V sz' nt co cr cu cw lr lu lw l' N:Nat}{X:CtxF}{t:TF}{Q:SV→Prop}{o:Oper}{e xT e' ty' e2 e3 eB:TypeId}{v z v0:Value}{ax ay ex ey ao ar au aw aq:Option Addr}{al ld:List (Nat×Nat)}{ef:List (Nat×HF×List Nat)}{D α D':Type}{cs c0 cl new:List Value}{ik ik':IntKind}{sx sy dx dy:Bool}{ji f:Int}{hi y:Operand}{q:Rat}{E:Env}{T0:Nat→Nat→Int}{a0:Nat→Nat→Rat}{ss S:List (List UInt8)}{xs ys va qs:List Rat}
section
variable {c:List Value}{h h':HF}{len lo n n':Nat}
structure StayO {D:Type}(P:List Value→D→HF→Nat→Prop):Prop where
 go:∀c d h h' n b cs e,P c d h n→h b=some (.row cs e)→cs.all nu=true→Only b h h'→P c d h' n
theorem ratP.stayO:StayO ratP:=⟨fun _ _ _ _ _ _ _ _ ⟨b,a,l,k,d,e,f,g,s,i,j⟩ p q o=>⟨b,a,l,k,d,e,f,g,s,i.only p q o,j.only p q o⟩⟩
structure Fil {D:Type}(P:List Value→D→HF→Nat→Prop)(h:HF)(n B:Nat)(cs:List Value)(e:TypeId)(S:List D)(j:Nat):Prop where
 row:h B=some (.row cs e)
 len:gP cs=gP S*4
 nus:cs.all nu=true
 rcs:Rec 4 (fun c d=>P c d h n) (cs.take (j*4)) (S.take j)
theorem pU {o:Nat}(h:o+gP c≤gP cs):(zu cs o c).take (o+gP c)=cs.take o++c∧gP (zu cs o c)=gP cs:=by
 unfold zu;constructor
 ·rw [←Ak,Bu (by simp only [k0,sn];omega),pq (by simp only [k0,sn];omega)]
 simp only [k0,sn,sa];omega
theorem za5 {o:Nat}(b:cs.all nu=true)(d:c.all nu=true):(zu cs o c).all nu=true:=by
 unfold zu;rw [BP] at*
 intro x a;simp only [AY] at a;rcases a with a|a|a
 ·exact b x (AB a)
 ·exact d x a
 exact b x (Bq a)
section
variable {P:List Value→D→HF→Nat→Prop}
theorem Fil.ext (b:Stay P){S:List D}(f:Fil P h n B cs e S j)(x:Ext n h h')(g:n≤n')(a:B<3*n):Fil P h' n' B cs e S j:=
 ⟨(x B a).trans f.row,f.len,f.nus,f.rcs.mono fun c d i=>b.go c d _ _ _ _ i x g⟩
theorem Fil.step (l:StayO P){S:List D}{d:D}(f:Fil P h n B cs e S j)(hj:S[j]?=some d)(a:gP c=4)(s:c.all nu=true)(i:P c d h n):Fil P (upd h B (some (.row (zu cs (j*4) c) e))) n B (zu cs (j*4) c) e S (j+1):=by
 have w:=(nN.1 hj).1;have g:j*4+gP c≤gP cs:=by rw [f.len,a];omega
 obtain ⟨p,u⟩:=pU g;have o:Only B h (upd h B (some (.row (zu cs (j*4) c) e))):=fun b q=>zm q;refine ⟨zg _ _ _,u.trans f.len,za5 f.nus s,?_⟩;rw [a] at p;rw [Bo,p,xa hj];exact (f.rcs.mono fun c d i=>l.go c d _ _ _ _ _ _ i f.row f.nus o).snoc a (l.go c d _ _ _ _ _ _ i f.row f.nus o)
theorem Fil.start {z:List Value}{S:List D}(a:h B=some (.row (rep m z) e))(d:gP z=4)(b:z.all nu=true)(hm:m=gP S):Fil P h n B (rep m z) e S 0:=by
 refine ⟨a,by rw [zmo,d,hm],?_,by rw [Bg,By,By];exact .nil⟩;clear a hm;induction m with
 |zero=>rfl
 |succ m ih=>rw [rep,FK,b,ih];rfl
theorem Fil.rs {S:List D}(f:Fil P h n B cs e S (gP S))(b:B<3*n):RS 4 P h n (gS (some ⟨B,0,none⟩) (gP S) (gP S)) S:=by
 have d:=f.len;have a:=f.rcs;rw [xd,←d,xd] at a;exact ⟨cs,.at_ b f.row rfl eU zo (by rw [Av,pq zo]),a⟩
end
def QSL (lo:Nat)(h:HF)(n:Nat)(v:Value)(l:List Rat):Prop:=QS h n v l∧∀ad len cap,v=gS (some ad) len cap→3*lo≤ad.block∧gro ad.block=false
theorem QSL.ext {l:List Rat}(r:QSL lo h n v l)(x:Ext n h h')(a:n≤n'):QSL lo h' n' v l:=⟨r.1.ext x a,r.2⟩
theorem QSL.x {l:List Rat}(r:QSL lo h n v l)(t:Tx n h n' h'):QSL lo h' n' v l:=r.ext t.2 t.1
theorem rC (k:Nat)(g:GG h n){a:Option Addr}(H:Sl h n 1 (gS a len cap) (strs S))(hl:∀s∈S,gP s<500)(hb:gP S<1000000):
  CX (cal (k+10)) 79 [gS a len cap] h n fun v h' n'=>∃a' l' c' C,v=.tuple #[gS a' l' c',jx C]∧(C=true↔∀s∈S,vF s)∧(C=true→QSL n h' n' (gS a' l' c') (S.map zj)):=by
 refine zw (fn:=Tryz.f79) R4 ?_;have e1:=z8 H;subst e1;refine Zy ?_;refine vB R9 zo ?_;refine Zo ?_;generalize hh:upd h (3*n+2) _=h1;have Z:∃cs,Fil ratP h1 (n+1) (3*n+2) cs 92 (S.map zj) 0:=⟨_,.start (by rw [←hh,zg]) rfl rfl (by rw [mu])⟩;have a0:Ext n h h1:=by rw [←hh];exact Ext.upd zo
 clear hh;refine ye (α:=Nat) (fun z=>[(4,gS (some ⟨3*n+2,0,none⟩) (gP S) (gP S)),(12,gS a (gP S) cap),(13,gZ .i64 (gP S:Int)),(14,gZ .i64 (z:Int))])
  (fun z h' n' w'=>w'=[]∧n+1≤n'∧Ext n h h'∧(∃cs,Fil ratP h' n' (3*n+2) cs 92 (S.map zj) z)∧z≤gP S∧∀s∈S.take z,vF s) (fun z=>gP S-z)
  0 ⟨rfl,rfl,rfl,rfl,eT⟩ ⟨rfl,eU,a0,Z,gH,fun s H=>eN H gN⟩ (by show gP S-0<LL;unfold LL;omega) ?_
 rintro z t h2 I _ ⟨rfl,a2,q,⟨cs,U⟩,hz,i⟩;refine zN ?_;by_cases hze:z=gP S
 ·refine Zp ?_;rw [hze,xd] at i;have M:=U;rw [hze,←mu (f:=zj)] at M;have Y:=M.rs (show 3*n+2<3*I by omega);rw [mu] at Y;exact retX [gS (some ⟨3*n+2,0,none⟩) (gP S) (gP S),jx true] R3 (show n≤I by omega) q ⟨_,_,_,_,rfl,⟨fun _=>i,fun _=>rfl⟩,fun _=>⟨Y,fun ad l c e=>by cases e;exact ⟨by show 3*n≤3*n+2;omega,zB n⟩⟩⟩
 obtain ⟨s,p⟩:∃s,S[z]?=some s:=⟨S[z]'zo,kF zo⟩;have w:s∈S:=mp p;refine Zh ?_;refine Ze ?_;refine yE (f:=fun s=>jy ⟨⟨s⟩⟩) (j:=z) (dv:=s) R7 (H.ext q (show n≤I by omega)) R2 p (fun _=>rfl) R4 fun _=>?_;refine Zb ?_;refine zM ?_;refine gJ R5 (zpk k (g.ext q (show n≤I by omega)) (hl s w)) ?_;rintro _ h3 J ⟨b,F,l,c,d,e,f,G,C,rfl,i3,j3,N⟩ W R;repeat refine zR ?_
 refine wt [jx false,gS none 0 0,jx false,gS none 0 0] R6 ?_;intro h4 K L;refine mq [jx b,gS F l c,jx d,gS e f G] R5 K R3 zb rfl (by show 3*n≤_;omega) ?_;intro T p5 A;have o:=(U.ext ratP.stay R W zo).ext ratP.stay L zs zo;have x5:Ext J h4 T:=fun b hb=>A b zo;have i5:=(i3.ext L zs).only K rfl A;have j5:=(j3.ext L zs).only K rfl A;have u:Fil ratP T (J+1) (3*n+2) cs 92 (S.map zj) z:=⟨(A _ zo).trans o.row,o.len,o.nus,o.rcs.mono fun c d hp=>ratP.stayO.go c d _ _ _ _ _ _ hp K rfl A⟩;have y:Ext n h T:=fun b hb=>(x5 b zo).trans ((L b zo).trans ((R b zo).trans (q b hb)));refine Zb ?_;cases C with
 |false=>
  refine Zq ?_;exact retX [gS none 0 0,jx false] R3 (show n≤J+1 by omega) y ⟨_,_,_,_,rfl,⟨fun h=>eN h gN,fun h=>N.2 (h s w)⟩,fun h=>eN h gN⟩
 |true=>
 refine Zl ?_;refine Zc ?_;refine z7 (v:=.agg #[jx b,gS F l c,jx d,gS e f G]) R5 (yw R2 p5 rfl zb rfl) ?_;refine zjv (aq:=some ⟨3*n+2,0,none⟩) (j:=z) R9 zo ?_;refine yF (b:=3*n+2) (off:=z*4) (cs:=[jx b,gS F l c,jx d,gS e f G]) ⟨rfl,rfl,rfl,rfl,(by show mo (some ⟨3*n+2,0+z*4,none⟩)=_;rw [sb]),rfl,rfl,rfl⟩ u.row (by rw [u.len,mu];omega) (by show 3*n≤_;omega) ?_;have V:=u.step ratP.stayO (j:=z) (c:=[jx b,gS F l c,jx d,gS e f G]) (by rw [As,p];rfl) rfl rfl ⟨_,_,_,_,_,_,_,_,rfl,i5,j5⟩;refine Zd ?_;refine goOn (z+1) (by show gP S-(z+1)<gP S-z;omega) ⟨rfl,rfl,rfl,rfl,eT⟩ ⟨rfl,by show n+1≤J+1;omega,fun b hb=>(zm zo).trans (y b hb),⟨_,V⟩,by show z+1≤gP S;omega,?_⟩;intro s' O;rw [xa p] at O;rcases AY.1 O with h'|h'
 ·exact i s' h'
 rw [qq.1 h'];exact N.1 rfl
end
def zrk (a:Nat→Nat→Rat)(k:Nat):Nat→Nat→Rat:=fun i j=>if k<i∧k<j then a i j-a i k/a k k*a k j else a i j
def psdA (n:Nat):Nat→Nat→(Nat→Nat→Rat)→Prop
 |0,_,_=>True
 |m+1,k,a=>0≤a k k∧(a k k=0→∀i,k<i→i<n→a i k=0)∧psdA n m (k+1) (zrk a k)
def TabR (n:Nat)(T:Nat→Nat→Int)(bf:Int)(s:Nat→Rat)(a:Nat→Nat→Rat)(k:Nat):Prop:=∀i j,k≤i→i<n→k≤j→j<n→(T i j:Rat)=bf*s i*a i j
theorem zdz {x:Int}:((x:Rat)=0)↔x=0:=by
 constructor
 ·intro h;have:(x:Rat)=((0:Int):Rat):=h;exact Rat.intCast_inj.1 this
 rintro rfl;rfl
def zqt (T:Nat→Nat→Int)(k:Nat)(bf:Int):Nat→Nat→Int:=fun i j=>if k<i then (T k k*T i j-T i k*T k j).tdiv bf else T i j
inductive LdS (n:Nat) (T0:Nat→Nat→Int):Nat→(Nat→Nat→Int)→Int→Prop
 |zero:LdS n T0 0 T0 1
 |skip {k T bf} (h:LdS n T0 k T bf) (h0:∀i,k≤i→i<n→T i k=0):LdS n T0 (k+1) T bf
 |clear {k T bf} (h:LdS n T0 k T bf) (hp:T k k≠0) (hk:k<n):LdS n T0 (k+1) (zqt T k bf) (T k k)
structure LdI (n:Nat)(T0:Nat→Nat→Int)(s:Nat→Rat)(a0:Nat→Nat→Rat)(k:Nat)(T:Nat→Nat→Int)(bf:Int)(a:Nat→Nat→Rat):Prop where
 tab:TabR n T bf s a k
 ls:LdS n T0 k T bf
 pos:0<bf
 eq:psdA n n 0 a0↔psdA n (n-k) k a
section
variable {n k:Nat}{T:Nat→Nat→Int}{s:Nat→Rat}{a:Nat→Nat→Rat}{bf:Int}
end
def YF (C:CalF)(l:Nat)(args:List Value)(h:HF)(n:Nat)(P:HF→Nat→List Nat→Prop):Prop:=∃h' n' w,C.yl l args h n=some (jx true,h',n',w)∧P h' n' w
section
variable {h:HF}{n:Nat}{d:Tmp}
end
structure YS (C:CalF)(l:Nat)(W:Nat→Prop)(args:Nat→List Value)(K:Nat)(I:Nat→HF→Nat→Prop):Prop where
 step:∀k h n,k<K→I k h n→YF C l (args k) h n fun h' n' w=>I (k+1) h' n'∧n≤n'∧(∀c,c<3*n→¬W c→h' c=h c)∧∀c∈w,W c∨3*n≤c
theorem tI:∀(l w:List Nat),∀c∈addW n0 l w,(c∈l∧c<3*n0)∨c∈w:=by
 intro l;induction l with
 |nil=>intro w c e;exact Or.inr e
 |cons b l ih=>
  intro w c e;unfold addW at e;cases hb:Ag (3*n0) b with
  |true=>
   simp only [hb] at e;rcases ih w c e with ⟨a,f⟩|a
   ·exact HI ⟨Bz _ a,f⟩
   exact Or.inr a
  |false=>
   simp only [hb] at e;have g:b<3*n0:=by
    rcases Bi b (3*n0) with h|h
    ·exact h
    rw [oo h] at hb;cases hb
   rcases ih (b::w) c e with ⟨a,f⟩|a
   ·exact HI ⟨Bz _ a,f⟩
   rcases Ad.1 a with rfl|a
   ·exact HI ⟨AR ..,g⟩
   exact Or.inr a
theorem nM:∀(l w:List Nat),∀c∈w,c∈addW n0 l w:=by
 intro l;induction l with
 |nil=>intro w c a;exact a
 |cons b l ih=>
  intro w c a;unfold addW;cases hb:Ag (3*n0) b with
  |true=>exact ih w c a
  |false=>exact ih (b::w) c (Bz _ a)
theorem wQ {c:Nat}(a:c<3*n0):∀{l w:List Nat},c∈l→c∈addW n0 l w:=by
 intro l;induction l with
 |nil=>intro w h;exact eN h og
 |cons b l ih=>
  intro w h;unfold addW;cases hb:Ag (3*n0) b with
  |true=>
   rcases Ad.1 h with rfl|h
   ·have:=tu hb;omega
   exact ih h
  |false=>
   rcases Ad.1 h with rfl|h
   ·exact nM l _ _ (AR ..)
   exact ih h
section
variable {c:List Value}{len off:Nat}{ty:TypeId}{x:Operand}
structure KP {D:Type}(sz:Nat)(P:List Value→D→HF→Nat→Prop):Prop where
 t:∀{c d h n h' n'},P c d h n→Tr n h n' h'→P c d h' n'
 c:∀{c d h n},P c d h n→gP c=sz∧c.all nu=true∧ones c=true
def OR {D:Type}(sz:Nat)(P:List Value→D→HF→Nat→Prop)(h:HF)(n b:Nat)(ds:List D):Prop:=b<3*n∧∃C e,h b=some (.row C e)∧C.all nu=true∧Rec sz (fun c d=>P c d h n) C ds
theorem Rec.set2 {D:Type}{sz:Nat}{P:List Value→D→Prop}{ds:List D}(r:Rec sz P cs ds){d:D}(f:gP c=sz)(l:P c d):∀{j:Nat},j<gP ds→Rec sz P (zu cs (j*sz) c) (ds.set j d):=by
 induction r with
 |nil=>intro j a;cases a
 | @cons c1 cs d1 ds hl hp1 hr ih=>
  intro j a;cases j with
  |zero=>
   have e:zu (c1++cs) (0*sz) c=c++cs:=by
    unfold zu;rw [Bg,By,Au,sb,f,←hl,List.drop_left]
   rw [e];exact .cons f l hr
  |succ j=>
   have e:zu (c1++cs) ((j+1)*sz) c=c1++zu cs (j*sz) c:=by
    have g:(j+1)*sz=gP c1+j*sz:=by rw [Bo,hl,Bj]
    unfold zu;rw [g,G7,pq zo,BD,Ak,EB,List.drop_append,List.drop_eq_nil_of_le zo,Au,BD]
   rw [e];exact .cons hl hp1 (ih (by simpa using a))
theorem dF {o:Nat}(h:cs.all nu=true)(f:c.all nu=true):(zu cs o c).all nu=true:=by
 rw [BP] at*
 intro x a;unfold zu at a;rcases AY.1 a with a|a
 ·exact h x (AB a)
 rcases AY.1 a with a|a
 ·exact f x a
 exact h x (Bq a)
section
variable {P:List Value→D→HF→Nat→Prop}{h h':HF}{n n':Nat}{ds:List D}
theorem OR.go (o:OR sz P h n b ds)(p:KP sz P)(t:Tr n h n' h')(e:h' b=h b):OR sz P h' n' b ds:=by
 obtain ⟨q,C,a,f,g,l⟩:=o;exact ⟨by have:=t.1;omega,C,a,e.trans f,g,l.mono fun _ _ r=>p.t r t⟩
theorem OR.ext (o:OR sz P h n b ds)(g:KP sz P)(x:Ext n h h')(f:n≤n'):OR sz P h' n' b ds:=o.go g ⟨f,fun c a=>.inl (x c a)⟩ (x b o.1)
theorem OR.xx (o:OR sz P h n b ds)(a:KP sz P)(t:Tx n h n' h'):OR sz P h' n' b ds:=o.ext a t.2 t.1
theorem OR.as {a:List D}(o:OR sz P h n b ds)(e:ds=a):OR sz P h n b a:=e▸o
theorem OR.get {d:D}(o:OR sz P h n b ds)(hj:ds[j]?=some d)(q:off=j*sz):∃c,P c d h n∧gP c=sz∧At h b off c:=by
 obtain ⟨y,C,s,l,v,p⟩:=o;obtain ⟨c,a,f,g,u⟩:=p.get hj;subst q;exact ⟨c,f,a,⟨_,C,l,rfl,zo,by rw [a];exact g⟩⟩
theorem OR.set {d:D}{C:List Value}(o:OR sz P h n b ds)(a:KP sz P)(l:h b=some (.row C e))(hj:j<gP ds)(r:P c d h n)(v:h' b=some (.row (zu C (j*sz) c) e))(B:Only b h h'):OR sz P h' n b (ds.set j d)∧Sto b h h':=by
 obtain ⟨A,F,G,f,g,y⟩:=o;rw [l] at f;cases f;have p:Sto b h h':=⟨B,_,_,l,g⟩;have t:Tr n h n h':=Tr.s p (Tr.refl _ _);obtain ⟨q,u,_⟩:=a.c r;exact ⟨⟨A,_,_,v,dF g u,(y.mono fun _ _ r=>a.t r t).set2 q (a.t r t) hj⟩,p⟩
theorem OR.sl (o:OR sz P h n b ds)(p:len=gP ds)(l:len≤cap):RS sz P h n (gS (some ⟨b,0,none⟩) len cap) ds:=by
 obtain ⟨g,C,q,f,s,a⟩:=o;have:=a.len;subst p;exact ⟨C,.at_ g f rfl l zo (by rw [Av,pq zo]),a⟩
theorem OR.fill {z:List Value}{d:D}(hb:b<3*n)(a:h b=some (.row (rep L z) e))(g:KP sz P)(f:P z d h n):OR sz P h n b (ns L d):=by
 refine ⟨hb,_,_,a,?_,?_⟩
 ·clear a;induction L with
  |zero=>rfl
  |succ L ih=>show List.all (z++rep L z) nu=true;rw [FK,ih,(g.c f).2.1];rfl
 clear a;induction L with
 |zero=>exact .nil
 |succ L ih=>exact .cons (g.c f).1 f ih
end
def Ty1 (h:HF)(b:Nat)(e:TypeId):Prop:=∃C,h b=some (.row C e)
def intP (c:List Value)(z:Int)(h:HF)(n:Nat):Prop:=∃b a l k,c=[jx b,gS a l k]∧IW h n b a l k z
theorem intP.kp:KP 2 intP:=⟨fun ⟨b,a,l,k,e,i⟩ t=>⟨b,a,l,k,e,i.t t⟩,fun ⟨b,a,l,k,e,i⟩=>by subst e;exact ⟨rfl,rfl,rfl⟩⟩
theorem ratP.kp:KP 4 ratP:=⟨fun ⟨b,a,l,k,d,e,f,g,p,i,j⟩ t=>⟨b,a,l,k,d,e,f,g,p,i.t t,j.t t⟩,fun ⟨b,a,l,k,d,e,f,g,p,i,j⟩=>by subst p;exact ⟨rfl,rfl,rfl⟩⟩
abbrev OZ (h:HF)(n b:Nat)(zs:List Int):Prop:=OR 2 intP h n b zs
section
variable {h:HF}{n:Nat}{d:Tmp}
theorem sSx {a:Operand}{b sz:Nat}(c':List Value)(hb:h b=some (.row c e))(k:∀h',h' b=some (.row c' e)→Sto b h h'→EO X ops r ⟨t,h',n,addW n0 [b] w⟩ Q)(g:zh ops t o=true:=by exact rfl)(hd:o.dst=none:=by exact rfl)(ho:o.op=.store ty a x:=by exact rfl)(hi:X.E.inf ty=some (sz,bt,z):=by exact rfl)(ha:evF t a=.pointer (some ⟨b,off,none⟩):=by exact rfl)(hu:c.all nu=true:=by exact rfl)(hx:zn (evF t x)=cs:=by exact rfl)(hs:cs.length=sz:=by exact rfl)(h1:ones cs=true:=by exact rfl)(hl:off+sz≤c.length:=by exact zb)(hsp:zu c off cs=c':=by exact rfl)(hX:X.n0=n0:=by exact rfl):EO X ops (o::r) ⟨t,h,n,w⟩ Q:=by
 subst hsp hx;rw [rS g (by rw [hd];rfl) (by rw [ho];rfl) (by rw [ho];exact xn hi ha hs h1 hb hl),hd,hX];exact k _ (zg _ _ _) ⟨fun c f=>zm f,_,_,hb,hu⟩
theorem dSx {a:Operand}{b sz:Nat}(c':List Value)(hb:h b=some (.row c e))(k:∀h',h' b=some (.row c' e)→Sto b h h'→ED X ops r ms (i+1) ⟨⟨t,h',n,addW n0 [b] w⟩,al,ld,(i,h,[b])::ef⟩ Q)(g:zh ops t o=true:=by exact rfl)(hd:o.dst=none:=by exact rfl)(ho:o.op=.store ty a x:=by exact rfl)(hi:X.E.inf ty=some (sz,bt,z):=by exact rfl)(ha:evF t a=.pointer (some ⟨b,off,none⟩):=by exact rfl)(hu:c.all nu=true:=by exact rfl)(hx:zn (evF t x)=cs:=by exact rfl)(hs:cs.length=sz:=by exact rfl)(h1:ones cs=true:=by exact rfl)(hl:off+sz≤c.length:=by exact zb)(hsp:zu c off cs=c':=by exact rfl)(hX:X.n0=n0:=by exact rfl)(g1:xq m ef=true:=by exact rfl)(g2:xJ m al=true:=by exact rfl)(g3:ya m [b] ld=true:=by exact rfl):ED X ops (o::r) (m::ms) i ⟨⟨t,h,n,w⟩,al,ld,ef⟩ Q:=by
 subst hsp hx;refine mX g (by rw [hd];rfl) (by rw [ho];rfl) (by rw [ho];exact xn hi ha hs h1 hb hl) g1 g2 g3 (Nat.le_refl _) ?_;rw [hd,hX];exact k _ (zg _ _ _) ⟨fun c f=>zm f,_,_,hb,hu⟩
theorem dZ {D:Type}{sz:Nat}{P:List Value→D→HF→Nat→Prop}{a:Operand}{b:Nat}{zs:List D}{q:D}(c:List Value)(v:OR sz P h n b zs)(u:KP sz P)(hj:j<zs.length)(g:off=j*sz)(p:P c q h n)(k:∀h',OR sz P h' n b (zs.set j q)→Sto b h h'→(∀e,Ty1 h b e→Ty1 h' b e)→ED X ops r ms (i+1) ⟨⟨t,h',n,addW n0 [b] w⟩,al,ld,(i,h,[b])::ef⟩ Q)(H:zh ops t o=true:=by exact rfl)(hd:o.dst=none:=by exact rfl)(ho:o.op=.store ty a x:=by exact rfl)(hi:X.E.inf ty=some (sz,bt,z):=by exact rfl)(ha:evF t a=.pointer (some ⟨b,off,none⟩):=by exact rfl)(hx:zn (evF t x)=c:=by exact rfl)(h1:xq m ef=true:=by exact rfl)(f:xJ m al=true:=by exact rfl)(h3:ya m [b] ld=true:=by exact rfl)(hX:X.n0=n0:=by exact rfl):ED X ops (o::r) (m::ms) i ⟨⟨t,h,n,w⟩,al,ld,ef⟩ Q:=by
 have y:=v;obtain ⟨O,C,e,l,R,I⟩:=v;have G:=I.len;obtain ⟨A,M,B⟩:=u.c p;have J:j*sz+sz≤zs.length*sz:=by
  have:=Nat.mul_le_mul_right sz (show j+1≤zs.length from hj);rw [Nat.add_mul,Nat.one_mul] at this;exact this
 subst g;refine mX H (by rw [hd];rfl) (by rw [ho];rfl) (by rw [ho];exact xn hi ha (by rw [hx];exact A) (by rw [hx];exact B) l zo) h1 f h3 (Nat.le_refl _) ?_;rw [hd,hx,hX];have s:=y.set (h':=upd h b (some (.row (zu C (j*sz) c) e))) u l hj p (zg _ _ _) (fun c F=>zm F);exact k _ s.1 s.2 fun N ⟨K,f⟩=>⟨_,by rw [l] at f;cases f;exact zg _ _ _⟩
end
end
section
variable {h' h0:HF}{len:Nat}{T:List Nat}{c:List Value}{sT ty:TypeId}{x:Operand}
def BkOf (v:Value)(b:Nat):Prop:=∃o l c,v=gS (some ⟨b,o,none⟩) l c
def GroU (h:HF)(n:Nat)(v:Value)(T:List Nat):Prop:=Gro h 0 n 196 1 v (gP T) (u64s T)
structure AU (h0:HF)(n0:Nat)(v0:Value)(h:HF)(n:Nat)(w:List Nat)(v:Value)(T:List Nat):Prop where
 hn:n0≤n
 keep:Keep v0 n0 h0 h
 hw:∀b∈w,BkOf v0 b
 g:GroU h n v T
 or:v=v0∨xC n0 v
 wd:WdD T
theorem AU.refl (g:GroU h0 n0 v0 T)(a:WdD T):AU h0 n0 v0 h0 n0 [] v0 T:=⟨eU,fun _ _ _=>rfl,fun b f=>eN f og,g,HI rfl,a⟩
theorem AU.trans {s u:HF}{p A:Nat}{B w2:List Nat}{v1 v2:Value}{C q:List Nat}(a:AU h0 n0 v0 s p B v1 C)(b:AU s p v1 u A w2 v2 q):AU h0 n0 v0 u A (addW n0 w2 B) v2 q:=by
 have F:=a.hn;refine ⟨Aa a.hn b.hn,fun k m i=>(b.keep k zo fun o l c e=>?_).trans (a.keep k m i),fun k m=>?_,b.g,?_,b.wd⟩
 ·rcases a.or with h|h
  ·exact i o l c (h▸e)
  rw [e] at h;have h:3*n0≤k:=h;omega
 ·rcases yN.1 m with h|⟨h,D⟩
  ·exact a.hw k h
  obtain ⟨o,l,c,e⟩:=b.hw k h;rcases a.or with f|f
  ·exact ⟨o,l,c,f▸e⟩
  rw [e] at f;have f:3*n0≤k:=f;omega
 rcases b.or with h|h
 ·rw [h];exact a.or
 right;cases v2 with
 |slice ad l c=>
  cases ad with
  |none=>trivial
  |some ad=>have h:3*p≤ad.block:=h;show 3*n0≤ad.block;omega
 |_=>trivial
theorem AU.sl {h:HF}{n:Nat}{w:List Nat}{u:Value}(a:AU h0 n0 v0 h n w v T)(s:Sl h0 n0 1 u c)(p:∀b,BkOf v0 b→Off b u):Sl h n 1 u c:=
 s.keep (fun f l cap i=>by
  have m:=s.below;subst i;refine a.keep f.block m fun o q g e=>?_;have:=p f.block ⟨o,q,g,e⟩;exact this rfl) a.hn
theorem AU.off {h:HF}{n:Nat}{w:List Nat}{u:Value}(a:AU h0 n0 v0 h n w v T)(s:Sl h0 n0 1 u c)(g:∀b,BkOf v0 b→Off b u):∀b,BkOf v b→Off b u:=by
 rintro b ⟨o,l,k,rfl⟩;rcases a.or with e|f
 ·exact g b ⟨o,l,k,e.symm⟩
 have f:3*n0≤b:=f;exact s.below.off f
theorem GroU.row {h:HF}{n:Nat}(g:GroU h n v T)(h0:gP T≠0):∃b,v=gS (some ⟨b,0,none⟩) (gP T) (gP T)∧gro b=true∧b<3*n∧h b=some (.row (u64s T) 196):=by
 obtain ⟨b,a,f,_,i,l,_⟩:=Gro.inv2 g h0;exact ⟨b,a,f,i,l⟩
theorem AU.row {L:List Nat}{w:List Nat}(a:gro b=true)(hb:b<3*n0)(hx:ExtT n0 b h0 h')(q:∀c∈w,c=b)(p:h' b=some (.row (u64s L) 196))(m:gP L=gP T)(g:WdD L):AU h0 n0 (gS (some ⟨b,0,none⟩) (gP T) (gP T)) h' n0 w (gS (some ⟨b,0,none⟩) (gP T) (gP T)) L:=by
 refine ⟨eU,fun k l f=>hx k l fun e=>f 0 (gP T) (gP T) (by rw [e]),fun c i=>⟨0,gP T,gP T,by rw [q c i]⟩,?_,.inl rfl,g⟩;rw [←m];exact .at_ a zo hb p (by rw [zL,AH]) (xW _)
section
variable {h:HF}{n:Nat}{d:Tmp}
theorem zc8 {s:Operand}(a:AU h0 n0 v0 h n w (evF t s) T)(l:X.n0=n0∧zh ops t o=true∧o.dst=some d∧zv X.nt (some d)=true∧o.op=.call {callee:=.builtin .append,args:=#[s,x],argTypes:=#[sT,xT]}∧(match X.E.und xT with|some (.int _)=>false|none=>false|_=>true)=true∧X.E.und sT=some (.slice 196)∧X.E.inf 196=some (1,8,z)∧gP (zn z)=1)(hx:argS h 1 (evF t x) 1 (u64s [0]))(hb:gP T<1000000000)
  (k:∀A h' w',AU h0 n0 v0 h' (n+1) w' A (T++[0])→EO X ops r ⟨upd t d A,h',n+1,w'⟩ Q):EO X ops (o::r) ⟨t,h,n,w⟩ Q:=by
 obtain ⟨l,G,hd,hn,p,B,q,m,u⟩:=l;obtain ⟨A,h',W,f,C,_,D,H,F⟩:=uf (lo:=0) q m u ⟨eU,zo⟩ a.g hx eU zo (by rw [zL];rfl) (xW _) gH;refine yM ⟨G,hd,hn,p,B⟩ f ?_;rw [l];refine k _ _ _ (a.trans ⟨zo,D,?_,?_,.inr F,?_⟩)
 ·intro b hb;have i:Gro h 0 n 196 1 (evF t s) (gP T) (u64s T):=a.g;have hv:∃v,v=evF t s:=⟨_,rfl⟩;obtain ⟨v,hv⟩:=hv;rw [←hv] at i f ⊢;generalize hTl:gP T=tl at i;generalize hTc:u64s T=tc at i;cases i with
  |nil=>
   have e:=append_nil (n:=n) q m u eU zo hx eU zo;rw [e] at f;injection f with f
   injection f with _ _ _ f
   rw [←f] at hb;exact eN hb og
  |at_ i hlo hb2 hr hl p=>
   have e:=ue (n:=n) q m u eU zo hx eU zo i hr hl (yZ p (xW _)) (by rw [zL];rfl);rw [e] at f;injection f with f
   injection f with _ _ _ f
   rw [←f] at hb;rw [qq.1 hb];exact ⟨_,_,_,rfl⟩
 ·unfold GroU;rw [k0,show u64s (T++[0])=u64s T++u64s [0] from by unfold u64s;rw [AP]];exact C
 exact WdD.snoc a.wd zd
theorem zl6 {i:Operand}{f:Oper}{a:Tmp}{s:Nat}{z2:Value}(m:zh ops t o=true∧o.dst=some a∧zv X.nt (some a)=true∧o.op=.indexAddr ty x i∧X.E.und ty=some (.slice e)∧X.E.inf e=some (1,bt,z)∧evF t x=gS (some ⟨b,0,none⟩) len cap∧evF t i=gZ ik ji∧ji=(j:Int))(B:j<len∧j<gP c)(hb:h b=some (.row c e3))
  (C:∀p,zh ops (upd t a p) f=true)(g:f.dst=none)(l:f.op=.store e2 (.tmp a) y)(u:X.E.inf e2=some (1,s,z2))(q:∀p,zn (evF (upd t a p) y)=[v])(D:ones [v]=true)
  (k:∀p,EO X ops r ⟨upd t a p,upd h b (some (.row (c.set j v) e3)),n,addW X.n0 [b] w⟩ Q):EO X ops (o::f::r) ⟨t,h,n,w⟩ Q:=by
 obtain ⟨m,F,J,K,L,H,M,I,A⟩:=m;subst A;refine oe ⟨m,F,J,K,L,H,M,I⟩ zo ?_;have G:=xn (E:=X.E) (t:=upd t a (mo (some ⟨b,0+(j:Int).toNat*1,none⟩))) (h:=h) (n:=n) (a:=.tmp a) (x:=y) (b:=b) (off:=0+(j:Int).toNat*1) u (zg _ _ _) (by rw [q];rfl) (by rw [q];exact D) hb (by rw [A9];omega);rw [rS (C _) (by rw [g];rfl) (by rw [l];rfl) (by rw [l];exact G),g];rw [q,A9,AH,sb,splice_one _ _ _ B.2];exact k _
end
end
section
variable {c:List Value}{h':HF}{n':Nat}
structure SideD where
 A:List Rat
 lo:List UInt8
 hi:List UInt8
def uK (lo:Nat)(c:List Value)(d:SideD)(h:HF)(n:Nat):Prop:=∃aA lA kA x1 b1 a1 l1 c1 d1 e1 f1 g1 x2 b2 a2 l2 c2 d2 e2 f2 g2,c=[gS aA lA kA,jx x1,jx b1,gS a1 l1 c1,jx d1,gS e1 f1 g1,jx x2,jx b2,gS a2 l2 c2,jx d2,gS e2 f2 g2]∧QSL lo h n (gS aA lA kA) d.A∧(x1=true↔d.lo≠[])∧IW h n b1 a1 l1 c1 (zj d.lo).num∧IW h n d1 e1 f1 g1 (denZ (zj d.lo))∧(x2=true↔d.hi≠[])∧IW h n b2 a2 l2 c2 (zj d.hi).num∧IW h n d2 e2 f2 g2 (denZ (zj d.hi))
theorem uK.stay (lo:Nat):Stay (uK lo):=⟨fun _ _ _ _ _ _ ⟨i,T,P,U,m,f,R,q,u,A,C,F,V,p,g,S,s,y,B,D,G,H,I,J,K,L,M,N,O⟩ x a=>⟨i,T,P,U,m,f,R,q,u,A,C,F,V,p,g,S,s,y,B,D,G,H,I.ext x a,J,K.ext x a,L.ext x a,M,N.ext x a,O.ext x a⟩⟩
theorem uK.nus {lo:Nat}{d:SideD}{h:HF}{n:Nat}(s:uK lo c d h n):c.all nu=true∧ones c=true∧gP c=11:=by
 obtain ⟨g,K,H,L,i,a,I,p,u,A,C,F,M,m,f,J,q,y,B,D,G,rfl,_⟩:=s;exact ⟨rfl,rfl,rfl⟩
def Chg (lo n:Nat)(h h':HF):Prop:=∀b,b<3*n→h' b=h b∨((b<3*lo∨gro b=true)∧∃cs e,h b=some (.row cs e)∧cs.all nu=true)
theorem Sl.chgG {lo:Nat}{h:HF}{n:Nat}(s:Sl h n 1 v cl)(f:∀x∈cl,nu x=false)(m:Chg lo n h h')(q:n≤n'):Sl h' n' 1 v cl:=by
 cases s with
 |nil ha=>exact .nil (uw ha q)
 | @at_ b2 off len cap x cs2 c2 hb hx hc2 hcap hl he=>
  rcases m b2 hb with g|⟨_,cs,e,u,y⟩
  ·exact .at_ zo (g.trans hx) hc2 hcap hl he
  by_cases h0:len=0
  ·subst h0;have:cl=[]:=by rw [←he];simp
   subst this;exact .nil (.inr ⟨_,_,_,rfl,zo⟩)
  exfalso;rw [u] at hx;cases hx;injection hc2 with hc2
  subst hc2;have i:gP cl=len:=by rw [←he,sn,sa];omega
  obtain ⟨d,a,rfl⟩:∃d a,cl=d::a:=by
   cases cl with
   |nil=>exact eN i.symm h0
   |cons d a=>exact ⟨d,a,rfl⟩
  have p:d∈cs:=by
   have:d∈(cs.drop off).take (len*1):=by rw [he];exact AR
   exact Bq (AB this)
  have:=BP.1 y _ p;rw [f d AR] at this;cases this
theorem IW.chg {lo:Nat}{h:HF}{n:Nat}{b:Bool}{a:Option Addr}{c:Nat}{x:Int}(i:IW h n b a l c x)(p:Chg lo n h h')(q:n≤n'):IW h' n' b a l c x:=by
 obtain ⟨e,L,f,g,m⟩:=i;exact ⟨e,L,f.chgG (fun x s=>by obtain ⟨d,_,rfl⟩:=AZ.1 s;rfl) p q,g,m⟩
theorem QSL.chg {lo:Nat}{h:HF}{n:Nat}{l:List Rat}(r:QSL lo h n v l)(s:Chg lo n h h')(u:n≤n'):QSL lo h' n' v l:=by
 obtain ⟨⟨p,B,C⟩,y⟩:=r;refine ⟨⟨p,?_,C.mono fun c d ⟨b,a,l,k,d,e,f,g,A,i,j⟩=>⟨b,a,l,k,d,e,f,g,A,i.chg s u,j.chg s u⟩⟩,y⟩;cases B with
 |nil ha=>exact .nil (uw ha u)
 |at_ hb hx hcs hcap hl he=>
  refine .at_ zo ?_ hcs hcap hl he;have:=y _ _ _ rfl;rcases s _ hb with m|⟨m|m,_⟩
  ·exact m.trans hx
  ·have q:=this.1;simp only at q;omega
  have q:=this.2;simp only at q;rw [q] at m;cases m
theorem uK.chg {lo:Nat}{d:SideD}{h:HF}{n:Nat}(s:uK lo c d h n)(a:Chg lo n h h')(f:n≤n'):uK lo c d h' n':=by
 obtain ⟨m,V,S,W,p,g,T,u,A,C,F,H,Y,q,i,U,y,B,D,G,I,J,K,L,M,N,O,P,R⟩:=s;exact ⟨m,V,S,W,p,g,T,u,A,C,F,H,Y,q,i,U,y,B,D,G,I,J,K.chg a f,L,M.chg a f,N.chg a f,O,P.chg a f,R.chg a f⟩
theorem Gro.same {lo n len:Nat}{h:HF}{C:List Value}(g:Gro h lo n e sz v len C)(a:∀b,3*lo≤b→b<3*n→gro b=true→h' b=h b):Gro h' lo n e sz v len C:=by
 cases g with
 |nil=>exact .nil
 |at_ hg hlo hb hr hl ho=>exact .at_ hg hlo hb ((a _ hlo hb hg).trans hr) hl ho
structure GSL (lo:Nat)(h:HF)(n:Nat)(v:Value)(ds:List SideD):Prop where
 ex:∃C,Gro h lo n 130 11 v (gP ds) C∧Rec 11 (fun c d=>uK lo c d h n) C ds∧C.all nu=true
theorem GSL.nil (lo:Nat)(h:HF)(n:Nat):GSL lo h n (gS none 0 0) []:=⟨[],.nil,.nil,rfl⟩
theorem GSL.ext {lo:Nat}{h:HF}{n:Nat}{a:List SideD}(g:GSL lo h n v a)(x:Ext n h h')(f:n≤n'):GSL lo h' n' v a:=by
 obtain ⟨C,i,m,p⟩:=g.ex;exact ⟨C,i.ext x f,m.mono fun c d q=>(uK.stay lo).go c d _ _ _ _ q x f,p⟩
theorem GSL.x {lo:Nat}{h:HF}{n:Nat}{a:List SideD}(g:GSL lo h n v a)(t:Tx n h n' h'):GSL lo h' n' v a:=g.ext t.2 t.1
theorem GSL.st {lo:Nat}{h:HF}{n:Nat}{a:List SideD}(g:GSL lo h n v a)(y:h b=some (.row cs e))(A:cs.all nu=true)(f:Only b h h')(hb:b<3*lo):GSL lo h' n v a:=by
 obtain ⟨C,i,m,p⟩:=g.ex;have q:Chg lo n h h':=fun k u=>by
  by_cases e2:k=b
  ·subst e2;exact .inr ⟨.inl hb,cs,e,y,A⟩
  exact .inl (f k e2)
 exact ⟨C,i.same fun k u _ _=>f k zo,m.mono fun c d s=>s.chg q eU,p⟩
theorem GSL.sto {lo:Nat}{h:HF}{n:Nat}{a:List SideD}(g:GSL lo h n v a)(o:Sto b h h')(hb:b<3*lo):GSL lo h' n v a:=by
 obtain ⟨o,_,_,f,i⟩:=o;exact g.st f i o hb
theorem Keep.chg {lo n len:Nat}{h:HF}{C:List Value}(k:Keep v n h h')(g:Gro h lo n e sz v len C)(f:C.all nu=true):Chg lo n h h':=fun b a=>by
 cases g with
 |nil=>exact .inl (k b a fun o l c e=>by cases e)
 | @at_ b2 _ _ hg hlo hb2 hr hl ho2=>
  by_cases e2:b=b2
  ·subst e2;exact .inr ⟨.inr hg,_,_,hr,f⟩
  exact .inl (k b a fun o l c e=>by cases e;exact e2 rfl)
theorem QSL.st {lo:Nat}{h:HF}{n:Nat}{l:List Rat}(g:QSL lo h n v l)(f:h b=some (.row cs e))(i:cs.all nu=true)(a:Only b h h')(hb:b<3*lo):QSL lo h' n v l:=
 g.chg (fun k m=>by
  by_cases e2:k=b
  ·subst e2;exact .inr ⟨.inl hb,cs,e,f,i⟩
  ·exact .inl (a k e2)) eU
theorem QSL.sto {lo:Nat}{h:HF}{n:Nat}{l:List Rat}(g:QSL lo h n v l)(o:Sto b h h')(hb:b<3*lo):QSL lo h' n v l:=by
 obtain ⟨o,_,_,a,f⟩:=o;exact g.st a f o hb
theorem QSL.lo {lo:Nat}{h:HF}{n:Nat}{l:List Rat}(r:QSL lo h n v l)(g:lo'≤lo):QSL lo' h n v l:=⟨r.1,fun f a cap e=>⟨by have:=(r.2 f a cap e).1;omega,(r.2 f a cap e).2⟩⟩
theorem QSL.nil (lo:Nat)(h:HF)(n:Nat):QSL lo h n (gS none 0 0) []:=⟨⟨[],.nil (.inl rfl),.nil⟩,fun f a cap e=>by cases e⟩
theorem uK.lo {lo:Nat}{d:SideD}{h:HF}{n:Nat}(s:uK lo c d h n)(P:lo'≤lo):uK lo' c d h n:=by
 obtain ⟨g,U,R,V,i,a,S,p,u,A,C,F,W,m,f,T,q,y,B,D,G,H,I,J,K,L,M,N,O⟩:=s;exact ⟨g,U,R,V,i,a,S,p,u,A,C,F,W,m,f,T,q,y,B,D,G,H,I.lo P,J,K,L,M,N,O⟩
theorem GSL.app {lo:Nat}{h:HF}{n:Nat}{v':Value}{a:List SideD}{d:SideD}{C:List Value}(i:Gro h lo n 130 11 v (gP a) C)(m:Rec 11 (fun c d=>uK lo c d h n) C a)(h3:C.all nu=true)(s:uK lo c d h n)(k:Keep v n h h')(g:Gro h' lo (n+1) 130 11 v' (gP a+1) (C++c)):GSL lo h' (n+1) v' (a++[d]):=by
 have f:=k.chg i h3;refine ⟨C++c,by rw [k0];exact g,(m.mono fun c d s=>s.chg f zs).snoc s.nus.2.2 (s.chg f zs),?_⟩;rw [FK,h3,s.nus.1];rfl
def SDS (h:HF)(n:Nat)(v:Value)(ds:List SideD):Prop:=RS 11 (uK 0) h n v ds
theorem GSL.sds {lo:Nat}{h:HF}{n:Nat}{a:List SideD}(g:GSL lo h n v a):SDS h n v a:=by
 obtain ⟨C,f,i,m⟩:=g.ex;exact ⟨C,f.sl,i.mono fun c d s=>s.lo gH⟩
theorem SDS.ext {h:HF}{n:Nat}{l:List SideD}(r:SDS h n v l)(x:Ext n h h')(a:n≤n'):SDS h' n' v l:=RS.ext' (uK.stay 0) r x a
theorem SDS.x {h:HF}{n:Nat}{l:List SideD}(r:SDS h n v l)(t:Tx n h n' h'):SDS h' n' v l:=r.ext t.2 t.1
theorem SDS.len {h:HF}{n:Nat}{a:Option Addr}{len:Nat}{l:List SideD}(r:SDS h n (gS a len cap) l):len=gP l:=RS.len' zd r
theorem SDS.at {h:HF}{n:Nat}{a:Option Addr}{len:Nat}{l:List SideD}{d:SideD}(r:SDS h n (gS a len cap) l)(hj:l[j]?=some d):∃g f p N K O q i L u B D G I P s m M y C F H J,a=some ⟨g,f,none⟩∧g<3*n∧j<len∧At h g (f+j*11) [gS p N K,jx O,jx q,gS i L u,jx B,gS D G I,jx P,jx s,gS m M y,jx C,gS F H J]∧QS h n (gS p N K) d.A∧(O=true↔d.lo≠[])∧IW h n q i L u (zj d.lo).num∧IW h n B D G I (denZ (zj d.lo))∧(P=true↔d.hi≠[])∧IW h n s m M y (zj d.hi).num∧IW h n C F H J (denZ (zj d.hi)):=by
 obtain ⟨g,f,c,Z,p2,p3,p4,_,p,N,K,O,q,i,L,u,B,D,G,I,P,s,m,M,y,C,F,H,J,rfl,R,S,T,U,V,W,Y⟩:=RS.at' zd r hj;exact ⟨g,f,p,N,K,O,q,i,L,u,B,D,G,I,P,s,m,M,y,C,F,H,J,Z,p2,p3,p4,R.1,S,T,U,V,W,Y⟩
section
variable {h:HF}{n:Nat}{d:Tmp}
theorem wE (cs:List Value){c:Nat}(a:Za X ops t o d (cls o.op=2∧mkE X.E o.op (evF t)=some ⟨cs,e,false,some (l,c)⟩))
  (k:∀h',h' (3*n+2)=some (.row cs e)→Ext n h h'→EO X ops r ⟨upd t d (gS (some ⟨3*n+2,0,none⟩) l c),h',n+1,w⟩ Q):EO X ops (o::r) ⟨t,h,n,w⟩ Q:=by obtain ⟨a,g,m,f,i⟩:=a;exact pZ ⟨a,g,m,f,i⟩ (k _ (zg _ _ _) (Ext.upd zo))
end
end
section
variable {h h':HF}{lo n n':Nat}{ds:List SideD}
structure RowD where
 A:List (List UInt8)
 lo:List UInt8
 hi:List UInt8
structure LPD where
 obj:List (List UInt8)
 rows:List RowD
 lower:List (List UInt8)
 upper:List (List UInt8)
def rowP (c:List Value)(d:RowD)(h:HF)(n:Nat):Prop:=∃a l k,c=[gS a l k,jy ⟨⟨d.lo⟩⟩,jy ⟨⟨d.hi⟩⟩]∧Sl h n 1 (gS a l k) (strs d.A)
theorem rowP.stay:Stay rowP:=⟨fun _ _ _ _ _ _ ⟨a,l,k,e,s⟩ x c=>⟨a,l,k,e,s.ext x c⟩⟩
def RWS (h:HF)(n:Nat)(v:Value)(ds:List RowD):Prop:=RS 3 rowP h n v ds
theorem RWS.ext {l:List RowD}(r:RWS h n v l)(x:Ext n h h')(a:n≤n'):RWS h' n' v l:=RS.ext' rowP.stay r x a
theorem RWS.x {l:List RowD}(r:RWS h n v l)(t:Tx n h n' h'):RWS h' n' v l:=r.ext t.2 t.1
theorem RWS.len {a:Option Addr}{len:Nat}{l:List RowD}(r:RWS h n (gS a len cap) l):len=gP l:=RS.len' zd r
theorem RWS.at {a:Option Addr}{len:Nat}{l:List RowD}{d:RowD}(r:RWS h n (gS a len cap) l)(hj:l[j]?=some d):∃g f i o m,a=some ⟨g,f,none⟩∧g<3*n∧j<len∧At h g (f+j*3) [gS i o m,jy ⟨⟨d.lo⟩⟩,jy ⟨⟨d.hi⟩⟩]∧Sl h n 1 (gS i o m) (strs d.A):=by
 obtain ⟨g,f,c,p,q,u,w,_,i,o,m,rfl,s⟩:=RS.at' zd r hj;exact ⟨g,f,i,o,m,p,q,u,w,s⟩
structure VLP (p:LPD):Prop where
 n1:1≤gP p.obj
 n2:gP p.obj≤64
 ll:gP p.lower=gP p.obj
 lu:gP p.upper=gP p.obj
 lr:gP p.rows≤64
 ob:∀s∈p.obj,vF s
 bd:∀(j:Nat) lo hi,p.lower[j]?=some lo→p.upper[j]?=some hi→pairOk lo hi
 rw:∀r∈p.rows,pairOk r.lo r.hi∧(∀s∈r.A,vF s)∧gP r.A=gP p.obj
def Txt (a:Nat)(s:List UInt8):Prop:=gP s<500∧Sz a (zj s)
structure LPB (a:Nat)(p:LPD):Prop where
 ob:∀s∈p.obj,Txt a s
 lw:∀s∈p.lower,Txt a s
 up:∀s∈p.upper,Txt a s
 rl:∀r∈p.rows,Txt a r.lo∧Txt a r.hi∧gP r.A<1000000∧∀s∈r.A,Txt a s
 n1:gP p.obj<1000000
 n2:gP p.rows<1000000
 n3:gP p.lower<1000000
 n4:gP p.upper<1000000
noncomputable def rowS (r:RowD):SideD:=⟨r.A.map zj,r.lo,r.hi⟩
noncomputable def zU (p:LPD):List SideD:=p.rows.map rowS
def zC (p:LPD):List SideD:=List.zipWith (fun lo hi=>⟨[],lo,hi⟩) p.lower p.upper
theorem gj {p:LPD}{lo hi:List UInt8}(a:p.lower[j]?=some lo)(c:p.upper[j]?=some hi):(zC p)[j]?=some ⟨[],lo,hi⟩:=by
 unfold zC;rw [List.getElem?_zipWith,a,c]
theorem zdq {p:LPD}{r:RowD}(a:p.rows[j]?=some r):(zU p)[j]?=some (rowS r):=by
 unfold zU;rw [As,a];rfl
theorem GSL.extB {B:List Nat}(g:GSL lo h n v ds)(x:ExtB n B h h')(o:n≤n')(i:∀b∈B,b<3*lo∧∃cs e,h b=some (.row cs e)∧cs.all nu=true):GSL lo h' n' v ds:=by
 obtain ⟨C,p,q,u⟩:=g.ex;have y:Chg lo n h h':=fun k l=>by
  by_cases a:k∈B
  ·obtain ⟨f,w⟩:=i k a;exact .inr ⟨.inl f,w⟩
  exact .inl (x k l a)
 have f:=p.same (h':=h') fun k l m _=>x k m fun a=>by have:=(i k a).1;omega
 refine ⟨C,?_,q.mono fun c d s=>s.chg y o,u⟩;exact f.ext (Ext.refl n h') o
theorem Keep.blk {len:Nat}{C:List Value}(k:Keep v n h h')(g:Gro h lo n e sz v len C)(hb:gro b=false)(a:b<3*n):h' b=h b:=by
 refine k b a fun o l c e=>?_;cases g with
 |nil=>cases e
 |at_ hg hlo hb2 hr a ho=>cases e;rw [hg] at hb;cases hb
end
section
variable {len off:Nat}{sT ty:TypeId}{x:Operand}{c:List Value}
def GR {D:Type}(sz:Nat)(P:List Value→D→HF→Nat→Prop)(lo:Nat)(h:HF)(n:Nat)(e:TypeId)(v:Value)(ds:List D):Prop:=∃C,Gro h lo n e sz v (gP ds) C∧Rec sz (fun c d=>P c d h n) C ds∧C.all nu=true
section
variable {P:List Value→D→HF→Nat→Prop}{lo n n':Nat}{h h':HF}{ds:List D}
theorem GR.nil:GR sz P lo h n e (gS none 0 0) ([]:List D):=⟨[],.nil,.nil,rfl⟩
theorem GR.go (g:GR sz P lo h n e v ds)(q:KP sz P)(t:Tr n h n' h')(p:∀b,BkOf v b→h' b=h b):GR sz P lo h' n' e v ds:=by
 obtain ⟨C,a,f,j⟩:=g;refine ⟨C,?_,f.mono fun _ _ r=>q.t r t,j⟩;generalize (gP ds)=L at a;cases a with
 |nil=>exact .nil
 |at_ hg hlo hb hr hl ho=>exact .at_ hg hlo (by have:=t.1;omega) ((p _ ⟨_,_,_,rfl⟩).trans hr) hl ho
theorem GR.bk (g:GR sz P lo h n e v ds):∀b,BkOf v b→3*lo≤b∧b<3*n∧gro b=true∧Nur (h b):=by
 obtain ⟨C,a,j,f⟩:=g;generalize (gP ds)=L at a;rintro b ⟨o,l,c,rfl⟩;cases a with
 |at_ hg hlo hb hr hl ho=>exact ⟨hlo,hb,hg,.row hr f⟩
theorem GR.shape (g:GR sz P lo h n e v ds)(j:gP ds=L):∃a,v=gS a L L:=by
 obtain ⟨C,f,p,q⟩:=g;subst j;obtain ⟨a,e,_⟩:=f.shape;exact ⟨a,e⟩
theorem GR.or (g:GR sz P lo h n e v ds)(p:gP ds=L)(h0:L≠0):∃b,v=gS (some ⟨b,0,none⟩) L L∧gro b=true∧3*lo≤b∧OR sz P h n b ds∧Ty1 h b e:=by
 obtain ⟨C,a,f,j⟩:=g;rw [p] at a;cases a with
 |nil=>exact eN rfl h0
 |at_ hg hlo hb hr hl ho=>exact ⟨_,rfl,hg,hlo,⟨hb,_,_,hr,j,f⟩,_,hr⟩
theorem OR.gr (o:OR sz P h n b ds)(B:KP sz P)(A:Ty1 h b e)(y:gro b=true)(p:3*lo≤b)(s:gP ds=L):GR sz P lo h n e (gS (some ⟨b,0,none⟩) L L) ds:=by
 obtain ⟨u,C,G,g,j,a⟩:=o;obtain ⟨F,f⟩:=A;rw [f] at g;cases g;subst s;have q:ones C=true:=by
  clear f j;induction a with
  |nil=>rfl
  |cons hl hp hr ih=>exact yZ (B.c hp).2.2 ih
 exact ⟨_,.at_ y p u f a.len q,a,j⟩
end
theorem rF {m i:Nat}{r:List (Nat×Nat)}(hm:m.testBit i=true)(k:ya m W r=true):ya m W ((i,b)::r)=true:=by
 unfold ya;rw [hm,Bool.true_or];exact k
section
variable {h:HF}{n:Nat}{d:Tmp}
theorem dGA {D:Type}{sz:Nat}{P:List Value→D→HF→Nat→Prop}{e:TypeId}{s:Operand}{lo:Nat}{ds:List D}{q:D}{v:Value}(c:List Value)(g:GR sz P lo h n e v ds)(u:KP sz P)(p:P c q h n)(hx:argS h sz (evF t x) 1 c)(T:ds.length<1000000)(G:lo≤n)(F:∀W:List Nat,(∀b∈W,3*lo≤b)→ya m W ld=true)
  (k:∀f h' W,(∀b∈W,3*lo≤b)→GR sz P lo h' (n+1) e f (ds++[q])→Tr n h (n+1) h'→Exa lo h h'→(∀b,b<3*n→¬BkOf v b→h' b=h b)→(∀b,BkOf f b→3*n≤b)→ED X ops r ms (i+1) ⟨⟨upd t d f,h',n+1,addW n0 W w⟩,al,ld,(i,h,W)::ef⟩ Q)
  (U:zh ops t o=true:=by exact rfl)(hd:o.dst=some d:=by exact rfl)(hn:zv X.nt (some d)=true:=by exact rfl)(ho:o.op=.call {callee:=.builtin .append,args:=#[s,x],argTypes:=#[sT,xT]}:=by exact rfl)(hv:evF t s=v:=by exact rfl)(hxT:(match X.E.und xT with|some (.int _)=>false|none=>false|_=>true)=true:=by exact rfl)(hu:X.E.und sT=some (.slice e):=by exact rfl)(hi:X.E.inf e=some (sz,bytes,z):=by exact rfl)(hz:(zn z).length=sz:=by exact rfl)(h1:1≤sz∧1≤bytes∧bytes≤1000:=by decide)(g1:xq m ef=true:=by exact rfl)(g2:xJ m al=true:=by exact rfl)(hX:X.n0=n0:=by exact rfl):ED X ops (o::r) (m::ms) i ⟨⟨t,h,n,w⟩,al,ld,ef⟩ Q:=by
 have S:=g;obtain ⟨C,J,Y,V⟩:=g;subst hv;obtain ⟨y,H,I⟩:=u.c p;have a:(ds.length+1)*bytes≤1099511627776:=Nat.le_trans (Nat.mul_le_mul (show ds.length+1≤1000000 by omega) h1.2.2) zd;obtain ⟨f,h',W,K,M,N,O,A,R⟩:=uf hu hi hz ⟨h1.1,h1.2.1⟩ J hx (Nat.le_refl _) a (by rw [Nat.one_mul];exact y) I G;refine iV U hd hn ho hxT K g1 g2 (F W A) zs ?_;rw [hX];have B:∀b,b<3*n→¬BkOf (evF t s) b→h' b=h b:=fun b a hn=>O b a fun o l c e=>hn ⟨o,l,c,e⟩;have j:Tr n h (n+1) h':=⟨Nat.le_succ _,fun b a=>by
  by_cases hB:BkOf (evF t s) b
  ·exact .inr (S.bk b hB).2.2.2
  ·exact .inl (B b a hB)⟩
 refine k f h' W A ⟨C++c,by rw [List.length_append];exact M,(Y.mono fun _ _ r=>u.t r j).snoc y (u.t p j),by rw [List.all_append,V,H];rfl⟩ j ⟨N⟩ B fun b ⟨o,l,Z,e⟩=>?_;subst e;exact R
theorem sSn {a:Operand}{sz:Nat}{e:TypeId}(c':List Value)(k:∀h',h' b=some (.row c' e)→Sto b h h'→EO X ops r ⟨t,h',n,w⟩ Q)(f:zh ops t o=true:=by exact rfl)(hd:o.dst=none:=by exact rfl)(ho:o.op=.store ty a x:=by exact rfl)(hi:X.E.inf ty=some (sz,bt,z):=by exact rfl)(ha:evF t a=.pointer (some ⟨b,off,none⟩):=by exact rfl)(hb:h b=some (.row c e):=by exact zp)(hu:c.all nu=true:=by exact rfl)(hx:zn (evF t x)=cs:=by exact rfl)(hs:cs.length=sz:=by exact rfl)(h1:ones cs=true:=by exact rfl)(hl:off+sz≤c.length:=by exact zb)(hsp:zu c off cs=c':=by exact rfl)(hX:X.n0=n0:=by exact rfl)(hnew:3*n0≤b:=by omega):EO X ops (o::r) ⟨t,h,n,w⟩ Q:=
 sSx c' hb (fun h' p q=>by rw [wD hnew];exact k h' p q) f hd ho hi ha hu hx hs h1 hl hsp hX
theorem dMs {e:TypeId}(cs:List Value){c:Nat}(k:∀h',h' (3*n+2)=some (.row cs e)→Ext n h h'→ED X ops r ms (i+1) ⟨⟨upd t d (.slice (some ⟨3*n+2,0,none⟩) l c),h',n+1,w⟩,(i,3*n+2)::al,ld,ef⟩ Q)(a:zh ops t o=true:=by exact rfl)(hd:o.dst=some d:=by exact rfl)(hn:zv X.nt (some d)=true:=by exact rfl)(hc:cls o.op=2:=by exact rfl)(hm:mkE X.E o.op (evF t)=some ⟨cs,e,false,some (l,c)⟩:=by exact rfl):ED X ops (o::r) (m::ms) i ⟨⟨t,h,n,w⟩,al,ld,ef⟩ Q:=
 zkz a hd hn hc hm (k _ (zg _ _ _) (Ext.upd (show 3*n≤3*n+2 by omega)))
end
theorem yL {l w:List Nat}{p:Nat→Prop}(a:∀c∈l,p c)(f:∀c∈w,p c):∀c∈addW n0 l w,p c:=fun c g=>by
 rcases tI _ _ c g with ⟨h,_⟩|h
 ·exact a c h
 exact f c h
theorem RS.sub {D:Type}{sz:Nat}{P:List Value→D→HF→Nat→Prop}(u:0<sz){h:HF}{n:Nat}{l:List D}(q:RS sz P h n (gS (some ⟨b,off,none⟩) len cap) l){m c cap':Nat}(hm:m+c≤len)(y:c≤cap'):RS sz P h n (gS (some ⟨b,off+m*sz,none⟩) c cap') ((l.drop m).take c):=by
 have F:=q.len' u;obtain ⟨a,s,r⟩:=q;by_cases h0:len=0
 ·have g:c=0:=zo;have f:=s.below;subst g;rw [By];exact ⟨[],.nil (.inr ⟨_,_,_,rfl,f⟩),.nil⟩
 obtain ⟨_,_,x,cs,e,f,H,j,A,I,C⟩:=s.inv h0;injection e with e
 injection e with e1 e2
 subst e1 e2;have p:=o0 sz hm;rw [Nat.add_mul] at p;refine ⟨(a.drop (m*sz)).take (c*sz),.at_ f H j y zo (zlz C zo),?_⟩;have B:∀{m:Nat} {a:List Value} {l:List D},Rec sz (fun c d=>P c d h n) a l→Rec sz (fun c d=>P c d h n) (a.drop (m*sz)) (l.drop m):=by
  intro m;induction m with
  |zero=>intro a l r;rw [Bg];exact r
  |succ m ih=>
   intro a l r;cases r with
   |nil=>rw [List.drop_nil,List.drop_nil];exact .nil
   | @cons c1 cs1 d1 ds1 hl hp hr=>
    rw [EW,Bo,Bj (m*sz) sz,←List.drop_drop,List.drop_left' hl];exact ih hr
 have G:∀{c:Nat} {a:List Value} {l:List D},Rec sz (fun c d=>P c d h n) a l→Rec sz (fun c d=>P c d h n) (a.take (c*sz)) (l.take c):=by
  intro c;induction c with
  |zero=>intro a l r;rw [Bg,By,By];exact .nil
  |succ c ih=>
   intro a l r;cases r with
   |nil=>rw [List.take_nil,List.take_nil];exact .nil
   | @cons c1 cs1 d1 ds1 hl hp hr=>
    rw [Gg,Bo,Bj (c*sz) sz,G7,pq zo,hl,BD];exact .cons hl hp (ih hr)
 exact G (B r)
section
variable {h:HF}{n:Nat}{d:Tmp}
theorem tC {e:TypeId}{sz:Nat}{j:Int}(mm:Nat)(a:Za X ops t o d (o.op=.slice ty x none (some hi) none∧X.E.und ty=some (.slice e)∧X.E.inf e=some (sz,bt,z)))
  (hx:evF t x=gS (some ⟨b,off,none⟩) len cap)(hj:evF t hi=gZ ik j)(hm:j=(mm:Int))(A:mm≤cap)(k:ED X ops r ms (i+1) ⟨⟨upd t d (gS (some ⟨b,off,none⟩) mm cap),h,n,w⟩,al,ld,ef⟩ Q):ED X ops (o::r) (m::ms) i ⟨⟨t,h,n,w⟩,al,ld,ef⟩ Q:=by
 obtain ⟨a,s,u,g,y,f⟩:=a;refine yQ a s u (by rw [g];rfl) ?_ k;rw [g];subst hm;show xc X.E ty (evF t x) none (some (evF t hi))=_;rw [hx,hj];have p:(0:Int)≤(mm:Int)∧(mm:Int)≤cap:=zo;have q:(gro b&&(Ag 1 0&&Ag cap 0))=false:=by cases gro b<;>rfl
 simp only [xc,y,f,bnd,eS p,A9,q,ig,C5]
end
end
section
variable {k off:Nat}{ty:TypeId}{x:Operand}
theorem mY {n:Nat}:(ctx k n nt).n0=n:=rfl
section
variable {h:HF}{n:Nat}{d:Tmp}
theorem sMk {l c:Operand}(zs:List Value)(k:∀h',h' (3*n+2)=some (.row (rep L zs) e)→Ext n h h'→EO X ops r ⟨upd t d (.slice (some ⟨3*n+2,0,none⟩) L L),h',n+1,w⟩ Q)(a:L≤1000)(f:zh ops t o=true:=by exact rfl)(hd:o.dst=some d:=by exact rfl)(hn:zv X.nt (some d)=true:=by exact rfl)(ho:o.op=.makeSlice ty l c:=by exact rfl)(hu:X.E.und ty=some (.slice e):=by exact rfl)(hi:X.E.inf e=some (sz,bt,z):=by exact rfl)(hz:zn z=zs:=by exact rfl)(hl:evF t l=.int ik (L:Int):=by exact rfl)(hc:evF t c=.int ik' (L:Int):=by exact rfl)(hs:zs.length=sz:=by exact rfl)(hb:bt≤1000:=by exact Nat.le_of_ble_eq_true rfl):EO X ops (o::r) ⟨t,h,n,w⟩ Q:=
 vB ⟨f,hd,hn,ho,hu,hi,hl,hc,(by rw [hz];exact hs)⟩ ⟨Nat.le_refl _,Nat.le_trans (Nat.mul_le_mul a hb) zd,zo⟩ (k _ (by rw [←hz];exact zg _ _ _) (Ext.upd zo))
end
section
variable {h:HF}{n:Nat}{d:Tmp}
theorem dZn {P:List Value→D→HF→Nat→Prop}{a:Operand}{zs:List D}{q:D}(c:List Value)(y:OR sz P h n b zs)(u:KP sz P)(hj:j<zs.length)(l:off=j*sz)(s:P c q h n)(g:3*n0≤b)(k:∀f,OR sz P f n b (zs.set j q)→Sto b h f→ED X ops r ms (i+1) ⟨⟨t,f,n,w⟩,al,ld,(i,h,[b])::ef⟩ Q)(p:zh ops t o=true:=by exact rfl)(hd:o.dst=none:=by exact rfl)(ho:o.op=.store ty a x:=by exact rfl)(hi:X.E.inf ty=some (sz,bt,z):=by exact rfl)(ha:evF t a=.pointer (some ⟨b,off,none⟩):=by exact rfl)(hx:zn (evF t x)=c:=by exact rfl)(h1:xq m ef=true:=by exact rfl)(h2:xJ m al=true:=by exact rfl)(h3:ya m [b] ld=true:=by exact rfl)(hX:X.n0=n0:=by exact rfl):ED X ops (o::r) (m::ms) i ⟨⟨t,h,n,w⟩,al,ld,ef⟩ Q:=
 dZ c y u hj l s (fun f v A _=>by rw [wD g];exact k f v A) p hd ho hi ha hx h1 h2 h3 hX
end
theorem zj4 (k:Nat)(h:HF)(n:Nat):CX (cal (k+3)) 83 [gZ .i64 1] h n (QV 1):=by
 refine zw (fn:=Tryz.f83) R4 ?_;refine Zi ?_;intro h1 v A;refine zG ?_;refine sC (zea _ _ _) ?_;rintro _ p s ⟨c,a,g,f,rfl,l⟩ C B;refine sT #[jx c,gS a g f,jx false,gS none 0 0] ?_;refine sS [jx c,gS a g f,jx false,gS none 0 0] ?_;intro q y u;refine zq ?_;exact ⟨_,_,_,_,_,_,_,_,rfl,(l.t zt:IW _ _ _ _ _ _ 1),IW.zero _ _⟩
end
section
variable {P:List Value→D→Prop}
theorem Rec.app {cs a:List Value}{c b:List D}(r:Rec sz P cs c)(s:Rec sz P a b):Rec sz P (cs++a) (c++b):=by
 induction r with
 |nil=>exact s
 |cons hl hp hr ih=>rw [Ak];exact .cons hl hp ih
end
section
variable {h:HF}{n:Nat}{d:Tmp}
theorem sGA {D:Type}{sz:Nat}{P:List Value→D→HF→Nat→Prop}{xT K e:TypeId}{s x:Operand}{lo a:Nat}{z:Value}{q:List D}{v:Value}{n0:Nat}(c:List Value)(p:List D)(g:GR sz P lo h n e v q)(G:KP sz P)(I:Rec sz (fun c d=>P c d h n) c p)(F:c.all nu=true∧ones c=true){L:Value}(hx:argS h sz L p.length c)(hm:1≤p.length)(Y:q.length+p.length<1000000)(B:n0≤lo∧lo≤n)
  (k:∀u f,GR sz P lo f (n+1) e u (q++p)→Tr n h (n+1) f→Ext lo h f→(∀b,b<3*n→¬BkOf v b→f b=h b)→(∀b,BkOf u b→3*n≤b)→EO X ops r ⟨upd t d u,f,n+1,w⟩ Q)
  (Z:zh ops t o=true:=by exact rfl)(hd:o.dst=some d:=by exact rfl)(hn:zv X.nt (some d)=true:=by exact rfl)(ho:o.op=.call {callee:=.builtin .append,args:=#[s,x],argTypes:=#[K,xT]}:=by exact rfl)(hv:evF t s=v:=by exact rfl)(hux:evF t x=L:=by exact rfl)(hxT:(match X.E.und xT with|some (.int _)=>false|none=>false|_=>true)=true:=by exact rfl)(hus:X.E.und K=some (.slice e):=by exact rfl)(hi:X.E.inf e=some (sz,a,z):=by exact rfl)(hz:(zn z).length=sz:=by exact rfl)(h1:1≤sz∧1≤a∧a≤1000:=by decide)(hX:X.n0=n0:=by exact rfl):EO X ops (o::r) ⟨t,h,n,w⟩ Q:=by
 have V:=g;obtain ⟨C,M,J,H⟩:=g;subst hv hux;have j:(q.length+p.length)*a≤1099511627776:=Nat.le_trans (Nat.mul_le_mul (show q.length+p.length≤1000000 by omega) h1.2.2) zd;obtain ⟨u,f,W,N,O,R,T,S,U⟩:=uf hus hi hz ⟨h1.1,h1.2.1⟩ M hx hm j I.len F.2 B.2;refine yM ⟨Z,hd,hn,ho,hxT⟩ N ?_;rw [hX,zV fun b j=>by have:=S b j;omega];have A:∀b,b<3*n→¬BkOf (evF t s) b→f b=h b:=fun b j hn=>T b j fun o l c e=>hn ⟨o,l,c,e⟩;have y:Tr n h (n+1) f:=⟨Nat.le_succ _,fun b j=>by
  by_cases hB:BkOf (evF t s) b
  ·exact .inr (V.bk b hB).2.2.2
  ·exact .inl (A b j hB)⟩
 refine k u f ⟨C++c,by rw [List.length_append];exact O,(J.mono fun _ _ r=>G.t r y).app (I.mono fun _ _ r=>G.t r y),by rw [List.all_append,H,F.1];rfl⟩ y R A fun b ⟨o,l,cc,e⟩=>?_;subst e;exact U
end
def pOps (E:Env):List Oper→List Nat→Nat→List Nat→Bool
 |[],_,_,_=>true
 |o::r,m::ms,i,es=>match o.op with
  | .store _ _ _=>es.all (fun j=>m.testBit j)&&pOps E r ms (i+1) (i::es)
  |_=>(qOp E o.op&& !(AD (cls o.op) 1))&&pOps E r ms (i+1) es
 |_::_,[],_,_=>false
theorem zgl {m:Nat}:∀{a:List (Nat×HF×List Nat)},(∀y∈a,m.testBit y.1=true)→xq m a=true:=by
 intro a;induction a with
 |nil=>intro _;rfl
 |cons y a ih=>
  intro h;obtain ⟨j,g⟩:=y;unfold xq;rw [h (j,g) gN];exact ih fun z b=>h z (by simp [b])
theorem ziv {X:CtxF}{ops:List Oper}:∀(l:List Oper) (ms:List Nat) (i:Nat) (s:SV) (f:List (Nat×HF×List Nat)) (es:List Nat),(∀y∈f,y.1∈es)→pOps X.E l ms i es=true→z0 X ops l ms i ⟨s,[],[],f⟩=seqF X ops l s:=by
 intro l;induction l with
 |nil=>intro ms i s f es _ _;simp [z0,seqF]
 |cons o l ih=>
  intro ms i s f es e b;cases ms with
  |nil=>simp [pOps] at b
  |cons m ms=>
   unfold pOps at b;unfold z0 seqF;simp only;split at b
   ·rename_i ty a x g;rw [AA] at b;cases hw:zh ops s.t o with
    |false=>
     simp only;congr 1;funext s1;exact ih ms (i+1) s1 f (i::es) (fun y j=>Bz _ (e y j)) b.2
    |true=>
     simp only;have p:cls o.op=3:=by rw [g];rfl
     unfold rL opF;have u:xq m f=true:=zgl fun y j=>BP.1 b.1 _ (e y j);simp only [p,u,xJ,AV];unfold mf;have A:effF X.E o.op (evF s.t) s.h s.n=uG X.E ty (evF s.t a) (evF s.t x) s.h s.n:=by rw [g];rfl
     rw [A];cases he:uG X.E ty (evF s.t a) (evF s.t x) s.h s.n with
     |none=>rfl
     |some r=>
      obtain ⟨v,F,G,W,rfl⟩:=jz he;have B:=zcy he;subst B;simp only;have w:ya m W []=true:=rfl;unfold xH;split
      ·simp only [w,oo eU,AV];refine ih ms (i+1) _ _ (i::es) (fun y j=>?_) b.2;rcases Ad.1 j with rfl|j
       ·exact AR
       exact Bz _ (e y j)
      rfl
   rw [AA,AA] at b;cases hw:zh ops s.t o with
   |false=>
    simp only;congr 1;funext s1;exact ih ms (i+1) s1 f es e b.2
   |true=>
    simp only;unfold rL opF;rcases zd0 b.1.1 with D|⟨t,d,x,k,g,q⟩
    ·cases p:cls o.op with
     |zero=>
      simp only [p];cases yy X.E o.op (evF s.t) with
      |none=>rfl
      |some v=>
       simp only;congr 1;funext s1;exact ih ms (i+1) s1 f es e b.2
     |succ c=>
      cases c with
      |zero=>rw [p] at b;simp at b
      |succ c=>omega
    have p:cls o.op=4:=by rw [g];rfl
    have C:mkE X.E o.op (evF s.t)=none:=by rw [g];exact sQ q _
    simp only [p,C];cases hpu:yy X.E o.op (evF s.t) with
    |none=>
     rw [g];simp only [vJ q]
    |some v=>
     rw [g];simp only [vJ q];congr 1;funext s1;exact ih ms (i+1) s1 f es e b.2
theorem nR {X:CtxF}{d:Nat}{ops:Array Oper}{s:SV}{Q:Ex→SV→Prop}(b:pOps X.E ops.toList (xA ops.toList []) 0 []=true):EC X (.region d ops true) s Q↔EO X ops.toList ops.toList s (Q .normal):=by
 unfold EC EO;rw [xk];have a:z0 X ops.toList ops.toList (xA ops.toList []) 0 ⟨s,[],[],[]⟩=seqF X ops.toList ops.toList s:=ziv _ _ _ _ _ _ (fun y c=>eN c og) b;rw [a];cases h:seqF X ops.toList ops.toList s with
 |none=>simp
 |some r=>simp only [vH];simp
section
variable {ty:TypeId}{x:Operand}{s:List UInt8}
def yP:List UInt8:=[48,48,48,49,48,50,48,51,48,52,48,53,48,54,48,55,48,56,48,57,49,48,49,49,49,50,49,51,49,52,49,53,49,54,49,55,49,56,49,57,50,48,50,49,50,50,50,51,50,52,50,53,50,54,50,55,50,56,50,57,51,48,51,49,51,50,51,51,51,52,51,53,51,54,51,55,51,56,51,57,52,48,52,49,52,50,52,51,52,52,52,53,52,54,52,55,52,56,52,57,53,48,53,49,53,50,53,51,53,52,53,53,53,54,53,55,53,56,53,57,54,48,54,49,54,50,54,51,54,52,54,53,54,54,54,55,54,56,54,57,55,48,55,49,55,50,55,51,55,52,55,53,55,54,55,55,55,56,55,57,56,48,56,49,56,50,56,51,56,52,56,53,56,54,56,55,56,56,56,57,57,48,57,49,57,50,57,51,57,52,57,53,57,54,57,55,57,56,57,57]
theorem wI (m:Nat)(hm:m<100):∃b1 b2,yP[m*2]?=some b1∧yP[m*2+1]?=some b2∧b1.toNat=48+m/10∧b2.toNat=48+m%10∧(yP.drop (m*2)).take 2=[b1,b2]:=by
 have h:∀i:Fin 100,(match yP[i.val*2]?,yP[i.val*2+1]? with|some b1,some b2=>decide (b1.toNat=48+i.val/10∧b2.toNat=48+i.val%10∧(yP.drop (i.val*2)).take 2=[b1,b2])|_,_=>false)=true:=by decide+kernel
 have:=h ⟨m,hm⟩;simp only at this;split at this
 ·rename_i b1 b2 h1 h2;have b:=of_decide_eq_true this;exact ⟨b1,b2,h1,h2,b.1,b.2.1,b.2.2⟩
 cases this
section
variable {h:HF}{n:Nat}{d:Tmp}
theorem jB {i l:Operand}(b:Za X ops t o d (o.op=.slice ty x (some i) (some l) none∧X.E.und ty=some .string∧evF t x=jy ⟨⟨s⟩⟩∧evF t i=gZ ik (j:Int)∧evF t l=gZ ik' (m:Int)))(B:j≤m∧m≤gP s)
  (k:EO X ops r ⟨upd t d (jy ⟨⟨(s.drop j).take (m-j)⟩⟩),h,n,w⟩ Q):EO X ops (o::r) ⟨t,h,n,w⟩ Q:=by
 obtain ⟨b,g,u,c,v,A,p,q⟩:=b;refine zS ⟨b,g,u,(by rw [c];rfl)⟩ ?_ k;rw [c];show xc X.E ty (evF t x) (some (evF t i)) (some (evF t l))=_;rw [A,p,q];have e:(0:Int)≤(j:Int)∧(j:Int)≤(m:Int):=zo;have f:(0:Int)≤(m:Int)∧(m:Int)≤(gP s:Int):=zo;simp only [xc,v,bnd,eS e,eS f,A9]
end
section
variable {h:HF}{n:Nat}{d:Tmp}
theorem zap {s:Nat}(l:zh ops t o=true)(f:o.dst=some d)(g:zv X.nt (some d)=true)(b:o.op=.binOp .shr ty x y ty')(hx:evF t x=gZ .i64 (a:Int))(p:evF t y=gZ ik (s:Int))(q:s≤64)
  (k:EO X ops r ⟨upd t d (gZ .i64 ((a/2^s:Nat):Int)),h,n,w⟩ Q):EO X ops (o::r) ⟨t,h,n,w⟩ Q:=by
 refine zS ⟨l,f,g,(by rw [b];rfl)⟩ ?_ k;rw [b];show binE X.E .shr ty (evF t x) (evF t y)=_;rw [hx,p];have c:¬(s:Int)<0:=zo;have e:min (s:Int).toNat (BJ .i64)=s:=by simp [BJ];omega
 simp only [binE,isSh,shE,eP c,e];rw [Int.fdiv_eq_ediv_of_nonneg _ (Int.le_of_lt (Int.pow_pos zd)),show (2:Int)^s=((2^s:Nat):Int) from by simp];rfl
end
theorem zbs (h:i<10):decT i=[Bd (48+i)]:=by
 have c:(Bd (48+i)).toNat=48+i:=uv h;by_cases h0:i=0
 ·subst h0;rfl
 have:=qC (d:=[Bd (48+i)]) (fun b f=>by rw [qq.1 f,c];omega) gN (by
  intro e;injection e with e
  have:=congrArg UInt8.toNat e;rw [c] at this;have g:(48:UInt8).toNat=48:=rfl;omega)
 rw [←this];congr 1;show i=10*0+((Bd (48+i)).toNat-48);rw [c];omega
theorem zi2 {c f:UInt8}(u:10≤i∧i<100)(p:c.toNat=48+i/10)(q:f.toNat=48+i%10):decT i=[c,f]:=by
 have:=qC (d:=[c,f]) (fun b g=>by
  simp only [Ad,og,or_false] at g;rcases g with rfl|rfl<;>omega) gN (by
  intro e;injection e with e
  have:=congrArg UInt8.toNat e;have l:(48:UInt8).toNat=48:=rfl;omega)
 rw [←this];congr 1;show i=10*(10*0+(c.toNat-48))+(f.toNat-48);omega
def znv:List UInt8:=[48,49,50,51,52,53,54,55,56,57,97,98,99,100,101,102,103,104,105,106,107,108,109,110,111,112,113,114,115,116,117,118,119,120,121,122]
theorem znu (m:Nat)(hm:m<10):(znv.drop m).take 1=[Bd (48+m)]:=by
 have h:∀i:Fin 10,(znv.drop i.val).take 1=[Bd (48+i.val)]:=by decide+kernel
 exact h ⟨m,hm⟩
theorem ka (k:Nat)(h:HF)(n:Nat)(hi:i<100):VF (cal (k+1)) 161 [gZ .i64 (i:Int)] h n fun v=>v=jy ⟨⟨decT i⟩⟩:=by
 refine zO (fn:=Tryz.f161) R4 ?_;refine Zd ?_;by_cases h10:i<10
 ·refine Zx ?_;refine zR ?_;refine jB (s:=znv) (j:=i) (m:=i+1) R8 ⟨zo,by show i+1≤36;omega⟩ ?_;rw [show i+1-i=1 by omega,znu i h10,←zbs h10];refine Zk ?_;exact retF _ rfl (zi rfl) R2 rfl
 refine Zl ?_;obtain ⟨g,l,_,_,c,e,f⟩:=wI i hi;refine zM ?_;refine st_mul (a:=(i:Int)) (b:=2) rfl rfl rfl rfl rfl rfl zo ?_;refine zM ?_;refine st_mul (a:=(i:Int)) (b:=2) rfl rfl rfl rfl rfl rfl zo ?_;refine zR ?_;refine jB (s:=yP) (j:=i*2) (m:=i*2+2) R8 ⟨zo,by show i*2+2≤200;omega⟩ ?_;rw [show i*2+2-i*2=2 by omega,f,←zi2 zo c e];refine Zk ?_;exact retF _ rfl (zi rfl) R2 rfl
theorem aI (k:Nat)(h:HF)(n:Nat)(b:Bool):VF (cal (k+1)) 194 [jx b] h n fun v=>v=gZ .i64 (if b then 1 else 0):=by
 refine zO (fn:=Tryz.f194) R4 ?_;refine Zw ?_;cases b
 ·rw [za rfl];refine Zd ?_;exact retF _ rfl (zi rfl) R2 rfl
 rw [ze rfl];refine Zd ?_;exact retF _ rfl (zi rfl) R2 rfl
theorem zh6 (k:Nat)(h:HF)(n:Nat)(hm:m≤64):VF (cal (k+1)) 192 [gZ .i64 (m:Int)] h n fun v=>v=gZ .i64 ((m*78913/262144:Nat):Int):=by
 refine zO (fn:=Tryz.f192) R4 ?_;refine Ze ?_;refine Ze ?_;refine st_mul (a:=(m:Int)) (b:=78913) rfl rfl rfl rfl rfl rfl zo ?_;refine zap (a:=m*78913) (s:=18) rfl rfl rfl rfl rfl rfl zo ?_;refine Zk ?_;exact retF _ rfl (zi rfl) R2 rfl
theorem zpx (hm:m<20):GK.p10[0+(m:Int).toNat*1]?=some (gZ .u64 ((10^m:Nat):Int)):=by
 rw [show 0+(m:Int).toNat*1=m from zo];have h:∀i:Fin 20,(match GK.p10[i.val]? with|some (gZ .u64 x)=>decide (x=((10^i.val:Nat):Int))|_=>false)=true:=by decide+kernel
 have:=h ⟨m,hm⟩;simp only at this;split at this
 ·rename_i x hx;rw [hx,of_decide_eq_true this]
 cases this
theorem zbb (hm:m≤64):m*78913/262144<20∧2^m≤10^(m*78913/262144+1)∧10^(m*78913/262144)≤5*2^m:=by
 have h:∀i:Fin 65,decide (i.val*78913/262144<20∧2^i.val≤10^(i.val*78913/262144+1)∧10^(i.val*78913/262144)≤5*2^i.val)=true:=by decide+kernel
 exact of_decide_eq_true (h ⟨m,zo⟩)
theorem vy (k:Nat){h:HF}(B:GK.G h)(n:Nat){x:Nat}(hx:x<18446744073709551616)(h0:x≠0):VF (cal (k+2)) 162 [gZ .u64 (x:Int)] h n fun v=>∃m:Nat,v=gZ .i64 (m:Int)∧1≤m∧m≤20∧x<10^m∧10^(m-1)≤x:=by
 refine zO (fn:=Tryz.f162) R4 ?_;refine Zd ?_;refine zM ?_;refine yi _ R5 (bi k _ _ hx) ?_;rintro _ ⟨m,rfl,e,f,g⟩;refine yi _ R5 (zh6 k _ _ e) ?_;rintro _ rfl;obtain ⟨c,u,A⟩:=zbb e;have D:=g h0;generalize m*78913/262144=q at c u A ⊢;refine Zk ?_;refine ZA ?_;refine fk R8 ⟨Dn _,Int.ofNat_lt.2 c⟩ ?_;refine zT R6 B.2.1 (v:=gZ .u64 ((10^q:Nat):Int)) ⟨rfl,(zpx c)⟩ ?_;by_cases hge:10^q≤x
 ·refine jD R6 (GV.2 hge) ?_;refine yi _ R5 (aI (k+1) _ _ true) ?_;rintro _ rfl;refine uI (a:=(q:Int)) (b:=1) R6 zo ?_;refine Zk ?_;exact retF _ rfl (zi rfl) R2 ⟨q+1,rfl,zo,zo,Af f u,hge⟩
 refine zse R6 (fun C=>hge (GV.1 C)) ?_;refine yi _ R5 (aI (k+1) _ _ false) ?_;rintro _ rfl;refine uI (a:=(q:Int)) (b:=0) R6 zo ?_;rw [E1];refine Zk ?_;have l:1≤q:=by
  rcases Nat.eq_zero_or_pos q with h|h
  ·subst h;rw [BL] at hge;omega
  exact h
 refine retF _ rfl (zi rfl) R2 ⟨q,rfl,l,zo,zo,?_⟩;obtain ⟨p,rfl⟩:∃p,q=p+1:=⟨q-1,zo⟩;rw [Ac] at A;show 10^p≤x;omega
end
section
variable {h h0:HF}{n:Nat}{c:List Value}
def Dg (c:List Value)(o L U i:Nat):Prop:=∀j,i≤j→j<L→c[o+j]?=some (gZ .u8 ((48+U/10^(L-1-j)%10:Nat):Int))
structure FbI (h0:HF)(B:Nat)(e:TypeId)(o L U:Nat)(c0:List Value)(h:HF)(w:List Nat)(c:List Value)(i:Nat):Prop where
 w1:∀b∈w,b=B
 w2:w=[]→h=h0
 oth:Only B h0 h
 row:h B=some (.row c e)
 len:gP c=gP c0
 dg:Dg c o L U i
 out:∀k,(k<o∨o+L≤k)→c[k]?=c0[k]?
theorem FbI.put {o:Nat}{v:Nat}(f:FbI h0 B e o L U c0 h w c i)(hi:i=m+1)(q:i≤L)(s:o+L≤gP c0)(l:v=48+U/10^(L-i)%10):FbI h0 B e o L U c0 (upd h B (some (.row (c.set (o+m) (gZ .u8 (v:Int))) e))) (B::w) (c.set (o+m) (gZ .u8 (v:Int))) m:=by
 refine ⟨fun b a=>?_,fun h=>(by cases h),fun b a=>(zm a).trans (f.oth b a),zg _ _ _,by rw [Bb,f.len],fun j p d=>?_,fun k g=>?_⟩
 ·rcases Ad.1 a with h|h
  ·exact h
  exact f.w1 b h
 ·by_cases e2:j=m
  ·subst e2;rw [List.getElem?_set_self (by rw [f.len];omega),l,show L-1-j=L-i by omega]
  rw [F3 zo];exact f.dg j zo d
 rw [F3 zo];exact f.out k g
def FbP (h:HF)(n B:Nat)(e:TypeId)(o L U:Nat)(c0:List Value)(h':HF)(n':Nat)(w:List Nat):Prop:=n'=n∧(∀b∈w,b=B)∧∃c,FbI h B e o L U c0 h' w c 0
theorem kN (k:Nat){o:Nat}(hB:B<3*n)(a0:h B=some (.row c0 e))(D:o+L≤gP c0)(hL:1≤L∧L≤20)(hU:U<10^L)(a3:U<18446744073709551616):
  CF (cal (k+1)) 163 [gS (some ⟨B,o,none⟩) L cap,gZ .u64 (U:Int)] h n fun _ K N w=>FbP h n B e o L U c0 K N w:=by
 refine rT (fn:=Tryz.f163) R4 ?_;have f0:FbI h B e o L U c0 h [] c0 L:=⟨fun b hb=>eN hb og,fun _=>rfl,fun _ _=>rfl,a0,rfl,fun j M h2=>eN M zo,fun _ _=>rfl⟩;refine Zd ?_;refine ye (α:=Nat×Nat×List Value) (fun z=>[(0,gS (some ⟨B,o,none⟩) L cap),(1,gZ .u64 (z.2.1:Int)),(4,gZ .i64 (z.1:Int))])
  (fun z K N w=>n=N∧FbI h B e o L U c0 K w z.2.2 z.1∧z.1≤L∧z.2.1=U/10^(L-z.1)) (fun z=>z.1) (L,U,c0) ⟨rfl,rfl,rfl,eT⟩ ⟨rfl,f0,eU,by show U=U/10^(L-L);rw [AO,BL,EI]⟩ (by show L<LL;unfold LL;omega) ?_
 rintro ⟨i,u,c⟩ t M _ w ⟨rfl,d,G,g⟩;have d:FbI h B e o L U c0 M w c i:=d;have G:i≤L:=G;have g:u=U/10^(L-i):=g;have C:∀q,U/10^(L-i+q)=u/10^q:=fun q=>by rw [g,CN,←Bf]
 have a7:u<18446744073709551616:=by rw [g];exact Aj (A3 _ _) a3
 have f:u<10^i:=by
  rw [g];refine EK ?_;rw [←Bf,show L-i+i=L by omega];exact hU
 refine zN ?_;by_cases h8:8≤i
 ·refine Zh ?_;refine Ze ?_;refine vO (a:=u) (b:=100000000) R6 zo ?_;refine zsj (c:=u%100000000) R7 zo ?_;refine Zs ?_;refine xN (a:=u) (b:=100000000) R6 ⟨zo,zo⟩ ?_;refine Zk ?_;generalize hus:u%100000000=us;refine zM ?_;refine wT (a:=us) (b:=10000) R6 ⟨zo,zo⟩ ?_;refine zM ?_;refine wR (a:=us) (b:=10000) R6 zo ?_;refine Zc ?_;refine zN ?_;generalize hlo:us%10000=lo;generalize hhi:us/10000=hg;have a4:lo%100=u%100:=zo;refine zM ?_;refine wT (a:=lo) (b:=100) R6 ⟨zo,zo⟩ ?_;refine xM (a:=lo/100) (b:=2) R6 zo ?_;refine zM ?_;refine wR (a:=lo) (b:=100) R6 zo ?_;refine xM (a:=lo%100) (b:=2) R6 zo ?_;refine Zc ?_;refine Ze ?_;refine wT (a:=hg) (b:=100) R6 ⟨zo,zo⟩ ?_;refine xM (a:=hg/100) (b:=2) R6 zo ?_;refine zM ?_;refine wR (a:=hg) (b:=100) R6 zo ?_;refine xM (a:=hg%100) (b:=2) R6 zo ?_;refine Zc ?_;refine zN ?_;generalize hm1:lo%100=m1;generalize hm2:lo/100=m2;generalize hm3:hg%100=m3;generalize hm4:hg/100=m4;have I:m1%10=u%10∧m1/10=u/10%10:=zo;have T:m2%10=u/100%10∧m2/10=u/1000%10:=zo;have k2:m3%10=u/10000%10∧m3/10=u/100000%10:=zo;have k3:m4%10=u/1000000%10∧m4/10=u/10000000%10:=zo;have l1:m1<100∧m2<100∧m3<100∧m4<100:=zo;clear a4 hm1 hm2 hm3 hm4 hlo hhi hus;rw [nR rfl];obtain ⟨O,P,l,p,y,A,_⟩:=wI (m1) zo;refine Zv ?_;refine Zv ?_;refine zM ?_;refine xu (a:=m1*2) (b:=1) R6 zo ?_;refine yH (s:=yP) (j:=m1*2+1) R8 p ?_;rw [A];refine zM ?_;refine yH (s:=yP) (j:=m1*2) R8 l ?_;rw [y];refine yG (j:=i-1) R8 zo ⟨zo,by rw [d.len];omega⟩ d.row (by show B<3*n;omega) (fun _=>rfl) R3 (fun _=>rfl) rfl fun _=>?_;have F:=d.put (m:=i-1) (v:=48+(m1)%10) zo zo D (by rw [←g,I.1]);refine yG (j:=i-2) R8 zo ⟨zo,by rw [F.len];omega⟩ F.row (by show B<3*n;omega) (fun _=>rfl) R3 (fun _=>rfl) rfl fun _=>?_;have H:=F.put (m:=i-2) (v:=48+(m1)/10) zo zo D (by rw [show L-(i-1)=L-i+1 by omega,C 1,I.2]);clear l p y A;refine zN ?_;rw [nR rfl];obtain ⟨O,P,l,p,y,A,_⟩:=wI (m2) zo;refine Zv ?_;refine Zv ?_;refine zM ?_;refine xu (a:=m2*2) (b:=1) R6 zo ?_;refine yH (s:=yP) (j:=m2*2+1) R8 p ?_;rw [A];refine zM ?_;refine yH (s:=yP) (j:=m2*2) R8 l ?_;rw [y];refine yG (j:=i-3) R8 zo ⟨zo,by rw [H.len];omega⟩ H.row (by show B<3*n;omega) (fun _=>rfl) R3 (fun _=>rfl) rfl fun _=>?_;have J:=H.put (m:=i-3) (v:=48+(m2)%10) zo zo D (by rw [show L-(i-2)=L-i+2 by omega,C 2,T.1]);refine yG (j:=i-4) R8 zo ⟨zo,by rw [J.len];omega⟩ J.row (by show B<3*n;omega) (fun _=>rfl) R3 (fun _=>rfl) rfl fun _=>?_;have R:=J.put (m:=i-4) (v:=48+(m2)/10) zo zo D (by rw [show L-(i-3)=L-i+3 by omega,C 3,T.2]);clear l p y A;refine zN ?_;rw [nR rfl];obtain ⟨O,P,l,p,y,A,_⟩:=wI (m3) zo;refine Zv ?_;refine Zv ?_;refine zM ?_;refine xu (a:=m3*2) (b:=1) R6 zo ?_;refine yH (s:=yP) (j:=m3*2+1) R8 p ?_;rw [A];refine zM ?_;refine yH (s:=yP) (j:=m3*2) R8 l ?_;rw [y];refine yG (j:=i-5) R8 zo ⟨zo,by rw [R.len];omega⟩ R.row (by show B<3*n;omega) (fun _=>rfl) R3 (fun _=>rfl) rfl fun _=>?_;have W:=R.put (m:=i-5) (v:=48+(m3)%10) zo zo D (by rw [show L-(i-4)=L-i+4 by omega,C 4,k2.1]);refine yG (j:=i-6) R8 zo ⟨zo,by rw [W.len];omega⟩ W.row (by show B<3*n;omega) (fun _=>rfl) R3 (fun _=>rfl) rfl fun _=>?_;have Y:=W.put (m:=i-6) (v:=48+(m3)/10) zo zo D (by rw [show L-(i-5)=L-i+5 by omega,C 5,k2.2]);clear l p y A;refine zN ?_;rw [nR rfl];obtain ⟨O,P,l,p,y,A,_⟩:=wI (m4) zo;refine Zv ?_;refine Zv ?_;refine zM ?_;refine xu (a:=m4*2) (b:=1) R6 zo ?_;refine yH (s:=yP) (j:=m4*2+1) R8 p ?_;rw [A];refine zM ?_;refine yH (s:=yP) (j:=m4*2) R8 l ?_;rw [y];refine yG (j:=i-7) R8 zo ⟨zo,by rw [Y.len];omega⟩ Y.row (by show B<3*n;omega) (fun _=>rfl) R3 (fun _=>rfl) rfl fun _=>?_;have Z:=Y.put (m:=i-7) (v:=48+(m4)%10) zo zo D (by rw [show L-(i-6)=L-i+6 by omega,C 6,k3.1]);refine yG (j:=i-8) R8 zo ⟨zo,by rw [Z.len];omega⟩ Z.row (by show B<3*n;omega) (fun _=>rfl) R3 (fun _=>rfl) rfl fun _=>?_;have f9:=Z.put (m:=i-8) (v:=48+(m4)/10) zo zo D (by rw [show L-(i-7)=L-i+7 by omega,C 7,k3.2]);clear l p y A;refine Zd ?_;exact goOn (i-8,u/100000000,_) (by show i-8<i;omega) ⟨rfl,rfl,by show gZ .i64 _=gZ .i64 _;congr 1;show (i:Int)-8=((i-8:Nat):Int);omega,eT⟩ ⟨rfl,f9,by show i-8≤L;omega,by show u/100000000=U/10^(L-(i-8));rw [show L-(i-8)=L-i+8 by omega,C 8]⟩
 refine Zl ?_;have a6:u<100000000:=Af f (sN zd (show i≤8 by omega));refine zM ?_;refine zsj (c:=u) R7 zo ?_;refine Zs ?_;refine zaq R6 ?_;refine zN ?_;refine yj (α:=Nat×Nat×List Value) (fun z=>[(0,gS (some ⟨B,o,none⟩) L cap),(4,gZ .i64 (z.1:Int)),(12,gZ .u32 (z.2.1:Int))]) (fun z K N w=>n=N∧FbI h B e o L U c0 K w z.2.2 z.1∧z.1≤L∧z.2.1=U/10^(L-z.1)∧z.2.1<10^z.1∧z.1<4) ?_ ?_
 ·by_cases h4:4≤i
  ·rw [eH (show (i:Int)≥4 by omega)];rw [ze rfl];refine Ze ?_;refine wR (a:=u) (b:=10000) R6 zo ?_;refine Zs ?_;refine wT (a:=u) (b:=10000) R6 ⟨zo,zo⟩ ?_;refine Zk ?_;generalize hlo:u%10000=lo;refine zM ?_;refine wT (a:=lo) (b:=100) R6 ⟨zo,zo⟩ ?_;refine xM (a:=lo/100) (b:=2) R6 zo ?_;refine zM ?_;refine wR (a:=lo) (b:=100) R6 zo ?_;refine xM (a:=lo%100) (b:=2) R6 zo ?_;refine Zc ?_;refine zN ?_;generalize hm1:lo%100=m1;generalize hm2:lo/100=m2;have I:m1%10=u%10∧m1/10=u/10%10:=zo;have T:m2%10=u/100%10∧m2/10=u/1000%10:=zo;have l1:m1<100∧m2<100:=zo;clear hm1 hm2 hlo;rw [nR rfl];obtain ⟨O,P,l,p,y,A,_⟩:=wI (m1) zo;refine Zv ?_;refine Zv ?_;refine zM ?_;refine xu (a:=m1*2) (b:=1) R6 zo ?_;refine yH (s:=yP) (j:=m1*2+1) R8 p ?_;rw [A];refine zM ?_;refine yH (s:=yP) (j:=m1*2) R8 l ?_;rw [y];refine yG (j:=i-1) R8 zo ⟨zo,by rw [d.len];omega⟩ d.row (by show B<3*n;omega) (fun _=>rfl) R3 (fun _=>rfl) rfl fun _=>?_;have F:=d.put (m:=i-1) (v:=48+(m1)%10) zo zo D (by rw [←g,I.1]);refine yG (j:=i-2) R8 zo ⟨zo,by rw [F.len];omega⟩ F.row (by show B<3*n;omega) (fun _=>rfl) R3 (fun _=>rfl) rfl fun _=>?_;have H:=F.put (m:=i-2) (v:=48+(m1)/10) zo zo D (by rw [show L-(i-1)=L-i+1 by omega,C 1,I.2]);clear l p y A;refine zN ?_;rw [nR rfl];obtain ⟨O,P,l,p,y,A,_⟩:=wI (m2) zo;refine Zv ?_;refine Zv ?_;refine zM ?_;refine xu (a:=m2*2) (b:=1) R6 zo ?_;refine yH (s:=yP) (j:=m2*2+1) R8 p ?_;rw [A];refine zM ?_;refine yH (s:=yP) (j:=m2*2) R8 l ?_;rw [y];refine yG (j:=i-3) R8 zo ⟨zo,by rw [H.len];omega⟩ H.row (by show B<3*n;omega) (fun _=>rfl) R3 (fun _=>rfl) rfl fun _=>?_;have J:=H.put (m:=i-3) (v:=48+(m2)%10) zo zo D (by rw [show L-(i-2)=L-i+2 by omega,C 2,T.1]);refine yG (j:=i-4) R8 zo ⟨zo,by rw [J.len];omega⟩ J.row (by show B<3*n;omega) (fun _=>rfl) R3 (fun _=>rfl) rfl fun _=>?_;have R:=J.put (m:=i-4) (v:=48+(m2)/10) zo zo D (by rw [show L-(i-3)=L-i+3 by omega,C 3,T.2]);clear l p y A;refine Zd ?_;refine zA (i-4,u/10000,_) ⟨rfl,by show gZ .i64 _=gZ .i64 _;congr 1;show (i:Int)-4=((i-4:Nat):Int);omega,rfl,eT⟩ ⟨rfl,R,by show i-4≤L;omega,by show u/10000=U/10^(L-(i-4));rw [show L-(i-4)=L-i+4 by omega,C 4],?_,by show i-4<4;omega⟩;show u/10000<10^(i-4);refine EK ?_;rw [show (10000:Nat)=10^4 from rfl,←Bf,show 4+(i-4)=i by omega];exact f
  rw [cA (show ¬(i:Int)≥4 by omega)];rw [za rfl];try refine zN ?_
  exact zA (i,u,c) ⟨rfl,rfl,rfl,eT⟩ ⟨rfl,d,G,g,f,by show i<4;omega⟩
 clear d G g C a7 f h8 a6;rintro ⟨i,u,c⟩ t M _ w ⟨rfl,d,G,g,f,S⟩;have d:FbI h B e o L U c0 M w c i:=d;have G:i≤L:=G;have g:u=U/10^(L-i):=g;have f:u<10^i:=f;have S:i<4:=S;have C:∀q,U/10^(L-i+q)=u/10^q:=fun q=>by rw [g,CN,←Bf]
 have a5:u<10000:=Af f (sN zd (show i≤4 by omega));refine Ze ?_;refine zaq R6 ?_;refine zN ?_;refine yj (α:=Nat×Nat×List Value) (fun z=>[(0,gS (some ⟨B,o,none⟩) L cap),(4,gZ .i64 (z.1:Int)),(12,gZ .u32 (z.2.1:Int))]) (fun z K N w=>n=N∧FbI h B e o L U c0 K w z.2.2 z.1∧z.1≤L∧z.2.1=U/10^(L-z.1)∧z.2.1<10^z.1∧z.1<2) ?_ ?_
 ·by_cases h2:2≤i
  ·rw [eH (show (i:Int)≥2 by omega)];rw [ze rfl];refine Ze ?_;refine wR (a:=u) (b:=100) R6 zo ?_;refine xM (a:=u%100) (b:=2) R6 zo ?_;refine Zs ?_;refine wT (a:=u) (b:=100) R6 ⟨zo,zo⟩ ?_;refine Zk ?_;generalize hm1:u%100=m1;have I:m1%10=u%10∧m1/10=u/10%10:=zo;have l1:m1<100:=zo;clear hm1;rw [nR rfl];obtain ⟨O,P,l,p,y,A,_⟩:=wI (m1) zo;refine Zv ?_;refine Zv ?_;refine zM ?_;refine xu (a:=m1*2) (b:=1) R6 zo ?_;refine yH (s:=yP) (j:=m1*2+1) R8 p ?_;rw [A];refine zM ?_;refine yH (s:=yP) (j:=m1*2) R8 l ?_;rw [y];refine yG (j:=i-1) R8 zo ⟨zo,by rw [d.len];omega⟩ d.row (by show B<3*n;omega) (fun _=>rfl) R3 (fun _=>rfl) rfl fun _=>?_;have F:=d.put (m:=i-1) (v:=48+(m1)%10) zo zo D (by rw [←g,I.1]);refine yG (j:=i-2) R8 zo ⟨zo,by rw [F.len];omega⟩ F.row (by show B<3*n;omega) (fun _=>rfl) R3 (fun _=>rfl) rfl fun _=>?_;have H:=F.put (m:=i-2) (v:=48+(m1)/10) zo zo D (by rw [show L-(i-1)=L-i+1 by omega,C 1,I.2]);clear l p y A;refine Zd ?_;refine zA (i-2,u/100,_) ⟨rfl,by show gZ .i64 _=gZ .i64 _;congr 1;show (i:Int)-2=((i-2:Nat):Int);omega,rfl,eT⟩ ⟨rfl,H,by show i-2≤L;omega,by show u/100=U/10^(L-(i-2));rw [show L-(i-2)=L-i+2 by omega,C 2],?_,by show i-2<2;omega⟩;show u/100<10^(i-2);refine EK ?_;rw [show (100:Nat)=10^2 from rfl,←Bf,show 2+(i-2)=i by omega];exact f
  rw [cA (show ¬(i:Int)≥2 by omega)];rw [za rfl];try refine zN ?_
  exact zA (i,u,c) ⟨rfl,rfl,rfl,eT⟩ ⟨rfl,d,G,g,f,by show i<2;omega⟩
 clear d G g C f a5 S;rintro ⟨i,u,c⟩ t M _ w ⟨rfl,d,G,g,f,V⟩;have d:FbI h B e o L U c0 M w c i:=d;have G:i≤L:=G;have g:u=U/10^(L-i):=g;have f:u<10^i:=f;have V:i<2:=V;refine zN ?_;by_cases h0:i=0
 ·subst h0;refine Zg ?_;try refine zN ?_
  refine ⟨rfl,[],rfl,⟨rfl,d.w1,c,d⟩,fun hw=>?_⟩;subst hw;have:=d.w2 rfl;subst this;exact ⟨rfl,d.w1,c,d⟩
 have a2:i=1:=zo;subst a2;have a1:u<10:=f;refine Zx ?_;refine xu (a:=48) (b:=u) R6 zo ?_;refine mE (a:=48+u) R7 ?_;rw [Ab (show 48+u<256 by omega)];refine yG (j:=0) R8 rfl ⟨zo,by rw [d.len];omega⟩ d.row (by show B<3*n;omega) (fun _=>rfl) R3 (fun _=>rfl) rfl fun _=>?_;have F:=d.put (m:=0) (v:=48+u) rfl G D (by rw [←g,Ab a1]);refine zN ?_;exact ⟨rfl,[],rfl,⟨rfl,F.w1,_,F⟩,fun hw=>(by cases hw)⟩
end
section
variable {h0:HF}{len:Nat}{ty:TypeId}{c:List Value}{x:Operand}
theorem ak:∀(L U:Nat),1≤L→U<10^L→10^(L-1)≤U→gP (decD U)=L∧∀j,j<L→(decD U)[j]?=some (U/10^(L-1-j)%10):=by
 intro L;induction L with
 |zero=>intro U h;omega
 |succ L ih=>
  intro U _ g l;have s:0<10^L:=AW zd;rw [BM] at l;have a:=wy (V:=U) zo;by_cases hL:L=0
  ·subst hL;have e:U/10=0:=by rw [Nat.pow_one] at g;omega
   rw [e,xo] at a;rw [a];refine ⟨rfl,fun j p=>?_⟩;have:j=0:=zo;subst this;rw [show 0+1-1-0=0 by omega,BL,EI];rfl
  obtain ⟨f,m⟩:=ih (U/10) zo (by rw [Ac] at g;omega) (by
   obtain ⟨q,rfl⟩:∃q,L=q+1:=⟨L-1,zo⟩;rw [Ac] at l;rw [BM];omega)
  rw [a];refine ⟨by rw [k0,f];rfl,fun j p=>?_⟩;by_cases h3:j<L
  ·rw [AG zo,m j h3,CN,pe 10,←Ac,show (L-1-j).succ=L+1-1-j by omega]
  have:j=L:=zo;subst this;rw [List.getElem?_append_right zo,f,AO,BM,AO,BL,EI];rfl
theorem FbI.cells {o:Nat}{h:HF}{w:List Nat}(f:FbI h0 B e o L U c0 h w c 0)(s:o+L≤gP c0)(m:1≤L)(g:U<10^L)(l:10^(L-1)≤U):(c.drop o).take L=u8s (decB U):=by
 obtain ⟨p,a⟩:=ak L U m g l;have q:=f.len;refine List.ext_getElem? fun j=>?_;by_cases hj:j<L
 ·rw [BA hj,List.getElem?_drop,f.dg j gH hj];unfold u8s decB;rw [As,As,a j hj];rfl
 rw [Ae (by rw [sn,sa];omega),Ae (by rw [rU];unfold decB;rw [mu];omega)]
section
variable {h:HF}{n:Nat}{d:Tmp}
theorem oh {lo:Operand}(a:Za X ops t o d (o.op=.slice ty x (some lo) (some hi) none∧X.E.und ty=some (.array len e)∧X.E.inf e=some (sz,bt,z)∧evF t x=mo (some ⟨b,0,none⟩)∧evF t lo=gZ ik (i:Int)∧evF t hi=gZ ik' ji))(l:ji=(j:Int))(hb:gro b=false)(D:i≤j∧j≤len∧i<len)
  (k:EO X ops r ⟨upd t d (gS (some ⟨b,0+i*sz,none⟩) (j-i) (len-i)),h,n,w⟩ Q):EO X ops (o::r) ⟨t,h,n,w⟩ Q:=by
 obtain ⟨a,v,y,p,A,g,C,m,f⟩:=a;subst l;refine zS ⟨a,v,y,(by rw [p];rfl)⟩ ?_ k;rw [p];show xc X.E ty (evF t x) (some (evF t lo)) (some (evF t hi))=_;rw [C,m,f];have q:(0:Int)≤(i:Int)∧(i:Int)≤(j:Int):=zo;have s:(0:Int)≤(j:Int)∧(j:Int)≤(len:Int):=zo;have u:AD len i=false:=by
  cases he:AD len i with
  |false=>rfl
  |true=>have:=Ay he;omega
 simp only [xc,A,g,bnd,eS q,eS s,A9,hb,Fa,GW,offA,u,wO]
theorem te (a:Za X ops t o d (o.op=.slice ty x none (some hi) none∧X.E.und ty=some (.array len e)∧X.E.inf e=some (sz,bt,z)∧evF t x=mo (some ⟨b,0,none⟩)∧evF t hi=gZ ik' ji))(l:ji=(j:Int))(hb:gro b=false)(A:j≤len∧0<len)
  (k:EO X ops r ⟨upd t d (gS (some ⟨b,0,none⟩) j len),h,n,w⟩ Q):EO X ops (o::r) ⟨t,h,n,w⟩ Q:=by
 obtain ⟨a,s,u,m,v,g,y,f⟩:=a;subst l;refine zS ⟨a,s,u,(by rw [m];rfl)⟩ ?_ k;rw [m];show xc X.E ty (evF t x) none (some (evF t hi))=_;rw [y,f];have p:(0:Int)≤(j:Int)∧(j:Int)≤(len:Int):=zo;have q:AD len 0=false:=by
  cases he:AD len 0 with
  |false=>rfl
  |true=>have:=Ay he;omega
 simp only [xc,v,g,bnd,eS p,A9,hb,Fa,GW,offA,q,wO,Bg,C5]
end
def intT (x:Int):List UInt8:=(if x<0 then [45] else [])++decT x.natAbs
theorem ae (h:U≠0):(decB U).map Bd=decT U:=by unfold decT;rw [eP h]
theorem dW (d:Nat)(l:List Nat):u8s (d::l)=gZ .u8 (d:Int)::u8s l:=rfl
theorem wV {h:HF}{o:Nat}(g:h b=some (.row c e))(f:(c.drop o).take L=cl)(l:o+L≤gP c)(a:L≤cap):argS h 1 (gS (some ⟨b,o,none⟩) L cap) L cl:=
 uX (n:=b+1) (.at_ zo g rfl a zo (by rw [AH];exact f))
theorem ze6 (k:Nat){h:HF}(F:GK.G h){n:Nat}(K:20≤n){x:Int}(hx: -9223372036854775808≤x∧x<9223372036854775808):VF (cal (k+3)) 129 [gZ .i64 x,gZ .i64 10] h n fun v=>v=jy ⟨⟨intT x⟩⟩:=by
 refine zO (fn:=Tryz.f129) R4 ?_;refine Zd ?_;refine Zt ?_;by_cases hsm:0≤x∧x<100
 ·obtain ⟨i,rfl⟩:∃i:Nat,x=(i:Int):=⟨x.natAbs,zo⟩;refine Zh ?_;refine Ze ?_;refine yi _ R5 (ka (k+1) _ _ zo) ?_;rintro _ rfl;refine Zk ?_;refine retF _ rfl (zi rfl) R2 ?_;show jy _=_;unfold intT;rw [eP zo];rfl
 obtain ⟨m,J⟩:∃m,m=x.natAbs:=⟨_,rfl⟩;have l:m≠0:=zo;by_cases hneg:x<0
 ·refine Zl ?_;refine wt (ns 24 (gZ .u8 0)) R6 ?_;intro u C D;refine Ze ?_;refine wm (ik:=.u64) (a:=((18446744073709551616-m:Nat):Int)) R6 ?_ ?_
  ·show some (gZ .u64 (Ai .u64 x))=_;rw [show x= -(m:Int) from zo,qK m zo]
  refine zM ?_;refine Zd ?_;rw [ze rfl];refine Ze ?_;refine zS (v:=gZ .u64 (m:Int)) R4 ?_ ?_
  ·show some (gZ .u64 (Ai .u64 (0-((18446744073709551616-m:Nat):Int))))=_;rw [ra _ zo];congr 3;omega
  refine Zs ?_;refine yi _ R5 (vy k (rR F D K) _ zo l) ?_;rintro _ ⟨L,rfl,p,H,g,q⟩;refine Zs ?_;refine uI (a:=1) (b:=(L:Int)) R6 zo ?_;refine oh (i:=1) (j:=1+L) R9 zo (zB n) zo ?_;rw [show 1+L-1=L by omega];refine zM ?_;refine zF _ R5 (kN (k+1) (h:=u) (n:=n+1) (B:=3*n+2) (o:=1) (L:=L) (U:=m) zo C (by rw [ru];omega) zo g zo) ?_;rintro v M _ W ⟨rfl,y,c,f⟩;rw [zV fun b A=>by rw [y b A];show 3*n≤_;omega];have s:gP c=24:=by rw [f.len,ru]
  refine Zd ?_;rw [ze rfl];refine zN ?_;refine fk R8 (j:=0) zo ?_;refine mq (b:=3*n+2) (off:=0) (c.set 0 (gZ .u8 45)) R5 f.row R3 (by rw [s];omega) (splice_one c 0 _ zo) (by show 3*n≤_;omega) ?_;intro O N P;refine Ze ?_;refine uI (a:=1) (b:=(L:Int)) R6 zo ?_;refine te (j:=1+L) R8 zo (zB n) zo ?_;have I:((c.set 0 (gZ .u8 45)).drop 0).take (1+L)=u8s (45::decB m):=by
   rw [dW,←f.cells (by rw [ru];omega) p g q,Av];cases c with
   |nil=>simp at s
   |cons c1 c2=>rw [Ea,Bj,Gg,EW,Av];rfl
  refine pY R5 (rg (B:=45::decB m) R3 (wV N I (by rw [Bb];omega) zo)) ?_;refine Zk ?_;refine retF _ rfl (zi rfl) R2 ?_;show jy _=_;unfold intT;rw [eS hneg,←J,←ae l];rfl
 refine Zl ?_;refine wt (ns 24 (gZ .u8 0)) R6 ?_;intro u C D;refine Ze ?_;refine wm (ik:=.u64) (a:=(m:Int)) R6 ?_ ?_
 ·show some (gZ .u64 (Ai .u64 x))=_;rw [show x=(m:Int) from zo,xR,Ab zo]
 refine zM ?_;refine Zd ?_;rw [za rfl];refine Ze ?_;refine yi _ R5 (vy k (rR F D K) _ zo l) ?_;rintro _ ⟨L,rfl,p,H,g,q⟩;refine Zs ?_;refine uI (a:=1) (b:=(L:Int)) R6 zo ?_;refine oh (i:=1) (j:=1+L) R9 zo (zB n) zo ?_;rw [show 1+L-1=L by omega];refine zM ?_;refine zF _ R5 (kN (k+1) (h:=u) (n:=n+1) (B:=3*n+2) (o:=1) (L:=L) (U:=m) zo C (by rw [ru];omega) zo g zo) ?_;rintro v M _ W ⟨rfl,y,c,f⟩;rw [zV fun b A=>by rw [y b A];show 3*n≤_;omega];have s:gP c=24:=by rw [f.len,ru]
 refine Zd ?_;rw [za rfl];refine Ze ?_;refine uI (a:=1) (b:=(L:Int)) R6 zo ?_;refine oh (i:=1) (j:=1+L) R9 zo (zB n) zo ?_;rw [show 1+L-1=L by omega];refine pY R5 (rg (B:=decB m) R3 (wV f.row (f.cells (by rw [ru];omega) p g q) zo zo)) ?_;refine Zk ?_;refine retF _ rfl (zi rfl) R2 ?_;show jy _=_;unfold intT;rw [eP hneg,←J,←ae l];rfl
theorem mV (k:Nat){h:HF}(a:GK.G h){n:Nat}(f:20≤n){x:Int}(hx: -9223372036854775808≤x∧x<9223372036854775808):VF (cal (k+4)) 70 [gZ .i64 x,gZ .i64 10] h n fun v=>v=jy ⟨⟨intT x⟩⟩:=by
 refine zO (fn:=Tryz.f70) R4 ?_;refine Ze ?_;refine Zn ?_;refine yi _ R5 (ze6 k a f hx) ?_;rintro _ rfl;refine Zk ?_;exact retF _ rfl (zi rfl) R2 rfl
theorem oT (k:Nat){h:HF}(a:GK.G h){n:Nat}(f:20≤n){x:Int}(hx: -9223372036854775808≤x∧x<9223372036854775808):VF (cal (k+5)) 26 [gZ .i64 x] h n fun v=>v=jy ⟨⟨intT x⟩⟩:=by
 refine zO (fn:=Tryz.f26) R4 ?_;refine Ze ?_;refine Ze ?_;refine yi _ R5 (mV k a f hx) ?_;rintro _ rfl;refine Zk ?_;exact retF _ rfl (zi rfl) R2 rfl
end
section
variable {len lo n' u:Nat}{sT:TypeId}{T:List Nat}{h' h0:HF}{x:Operand}
def decN (V:Nat):List Nat:=if V=0 then [48] else decB V
theorem np (V:Nat):decT V=(decN V).map Bd:=by
 unfold decT decN;split<;>rfl
theorem znz:∀V,∀d∈decD V,d<10:=by
 intro V;induction V using Nat.strongRecOn with
 |_ V ih=>
  intro d a;by_cases h0:V=0
  ·subst h0;rw [xo] at a;exact eN a og
  rw [wy h0] at a;rcases AY.1 a with h|h
  ·exact ih (V/10) zo d h
  rw [qq.1 h];omega
theorem zny (V:Nat):∀d∈decN V,d<256:=by
 intro d a;unfold decN at a;split at a
 ·rw [qq.1 a];decide
 obtain ⟨q,c,rfl⟩:=AZ.1 a;have:=znz V q c;show 48+q<256;omega
theorem di (V:Nat):decN V≠[]:=by
 unfold decN;split
 ·simp
 rename_i h;intro e;unfold decB at e;rw [wy h] at e;simp at e
theorem zb7 {l:List Nat}(h:∀d∈l,d<256):(l.map Bd).map (fun b:UInt8=>gZ .u8 (b.toNat:Int))=u8s l:=by
 induction l with
 |nil=>rfl
 |cons d l ih=>
  rw [C9,C9,ih fun x a=>h x (by simp [a]),dW];have:=h d gN;rw [show (Bd d).toNat=d from by rw [UInt8.toNat_ofNat'];omega]
theorem aZ {h:HF}:argS h 1 (jy ⟨⟨decT V⟩⟩) (gP (decN V)) (u8s (decN V)):=by
 refine ⟨?_,?_⟩
 ·show some (gP (decT V))=_;rw [np,mu]
 show some (((decT V).take (gP (decN V))).map fun b:UInt8=>gZ .u8 (b.toNat:Int))=_;rw [np,pq (by rw [mu];exact AL _),zb7 (zny V)]
theorem aj (f:1≤L)(a:U<10^L)(c:10^(L-1)≤U):gP (decB U)=L:=by
 unfold decB;rw [mu];exact (ak L U f a c).1
def zch (v:Value)(b:Nat):Prop:=∃o l c,v=gS (some ⟨b,o,none⟩) l c
def GroT (h:HF)(n:Nat)(v:Value)(T:List Nat):Prop:=Gro h 0 n 5 1 v (gP T) (u8s T)
theorem nH {h:HF}{n:Nat}{x:Value}{new:List Nat}(s:E.und sT=some (.slice e))(A:e=5)(hi:E.inf e=some (1,bytes,z))(y:gP (zn z)=1)(i:1≤bytes)(g:GroT h n v T)(hx:argS h 1 x m (u8s new))(hm:1≤m)(p:gP new=m)(hb:(gP T+m)*bytes≤1099511627776):
  ∃v' h' W,yW E h n sT v x=some (.val v' h' (n+1) W)∧GroT h' (n+1) v' (T++new)∧Keep v n h h'∧(∀b∈W,zch v b)∧xC n v':=by
 subst A;unfold GroT at*
 have a:gP (u8s new)=m*1:=by rw [rU,p,AH]
 have c:gP T+m=gP (T++new):=by rw [k0,p]
 have f:u8s T++u8s new=u8s (T++new):=by unfold u8s;rw [AP]
 generalize hT:gP T=tl at g hb c;generalize hc:u8s T=cc at g f;cases g with
 |nil=>
  refine ⟨_,_,_,append_nil s hi y eU i hx hm (by rw [sb] at hb;exact hb),?_,fun b hb _=>zm zo,fun b hb=>eN hb og,by show 3*n≤3*n+1;omega⟩;rw [←f,←c,sb,Au];exact .at_ (uD n) zo zo (zg _ _ _) a (rE _)
 | @at_ b len _ hg2 hlo hb2 hr hl2 ho2=>
  refine ⟨_,_,_,ue s hi y eU i hx hm hb hg2 hr hl2 (yZ ho2 (rE _)) a,?_,fun k j q=>?_,fun k j=>?_,by show 3*n≤3*n+1;omega⟩
  ·rw [←f,←c];exact .at_ (uD n) zo zo (zg _ _ _) (by rw [k0,hl2,a];omega) (yZ ho2 (rE _))
  ·rw [zm zo,zm (fun e=>q 0 tl tl (by rw [e]))]
  rw [qq.1 j];exact ⟨_,_,_,rfl⟩
structure AS (h0:HF)(n0:Nat)(v0:Value)(h:HF)(n:Nat)(w:List Nat)(v:Value)(T:List Nat):Prop where
 hn:n0≤n
 keep:Keep v0 n0 h0 h
 hw:∀b∈w,zch v0 b
 g:GroT h n v T
 or:v=v0∨xC n0 v
theorem AS.refl (g:GroT h0 n0 v0 T):AS h0 n0 v0 h0 n0 [] v0 T:=⟨eU,fun _ _ _=>rfl,fun b a=>eN a og,g,HI rfl⟩
theorem AS.ext {h:HF}{n:Nat}{w:List Nat}(a:AS h0 n0 v0 h n w v T)(x:Ext n h h')(c:n≤n'):AS h0 n0 v0 h' n' w v T:=
 ⟨Aa a.hn c,fun b i f=>(x b (by have:=a.hn;omega)).trans (a.keep b i f),a.hw,a.g.ext x c,a.or⟩
theorem AS.only {h:HF}{n:Nat}{w:List Nat}(a:AS h0 n0 v0 h n w v T)(o:Only b h h')(hb:3*n0≤b)(i:gro b=false):AS h0 n0 v0 h' n w v T:=
 ⟨a.hn,fun k c f=>(o k zo).trans (a.keep k c f),a.hw,a.g.same fun k _ _ c=>o k fun e=>(by rw [e,i] at c;cases c),a.or⟩
theorem Gro.blk {n o c:Nat}{h:HF}{C:List Value}(g:Gro h lo n e sz v len C)(a:v=gS (some ⟨b,o,none⟩) l c):gro b=true∧b<3*n:=by
 cases g with
 |nil=>cases a
 |at_ hg hlo hb hr hl ho=>cases a;exact ⟨hg,hb⟩
theorem AS.trans {q s:HF}{y A:Nat}{B w2:List Nat}{v1 v2:Value}{C p:List Nat}(a:AS h0 n0 v0 q y B v1 C)(b:AS q y v1 s A w2 v2 p):AS h0 n0 v0 s A (addW n0 w2 B) v2 p:=by
 have D:=a.hn;refine ⟨Aa a.hn b.hn,fun k j i=>(b.keep k zo fun o l c e=>?_).trans (a.keep k j i),fun k j=>?_,b.g,?_⟩
 ·rcases a.or with h|h
  ·exact i o l c (h▸e)
  rw [e] at h;have h:3*n0≤k:=h;omega
 ·rcases yN.1 j with h|⟨h,F⟩
  ·exact a.hw k h
  obtain ⟨o,l,c,e⟩:=b.hw k h;rcases a.or with f|f
  ·exact ⟨o,l,c,f▸e⟩
  rw [e] at f;have f:3*n0≤k:=f;omega
 rcases b.or with h|h
 ·rw [h];exact a.or
 exact .inr (h.mono D)
section
variable {h:HF}{n:Nat}{d:Tmp}
theorem oi {s:Operand}{new:List Nat}(f:Za X ops t o d (o.op=.call {callee:=.builtin .append,args:=#[s,x],argTypes:=#[sT,xT]}∧(match X.E.und xT with|some (.int _)=>false|none=>false|_=>true)=true∧X.E.und sT=some (.slice e)∧e=5∧X.E.inf e=some (1,bytes,z)∧gP (zn z)=1))(p:1≤bytes)(H:evF t s=v)(hx:argS h 1 (evF t x) m (u8s new))(hm:1≤m)(F:gP new=m)(hb:(gP T+m)*bytes≤1099511627776)(a:AS h0 X.n0 v0 h n w v T)
  (k:∀c h' w',AS h0 X.n0 v0 h' (n+1) w' c (T++new)→Keep v n h h'→EO X ops r ⟨upd t d c,h',n+1,w'⟩ Q):EO X ops (o::r) ⟨t,h,n,w⟩ Q:=by
 obtain ⟨f,hd,hn,G,j,I,C,D,J⟩:=f;obtain ⟨c,h',W,q,y,i,A,B⟩:=nH I C D J p a.g hx hm F hb;refine yM ⟨f,hd,hn,G,j⟩ (by rw [H];exact q) ?_;have b:AS h n v h' (n+1) W c (T++new):=⟨Al _,i,A,y,.inr B⟩;exact k c h' _ (a.trans b) i
end
theorem GroT.shape {h:HF}{n:Nat}(g:GroT h n v T):∃a,v=gS a (gP T) (gP T):=by
 obtain ⟨a,e,_⟩:=Gro.shape g;exact ⟨a,e⟩
theorem GroT.keepB {h:HF}{n:Nat}(g:GroT h n v T)(k:Keep v n h h')(hb:gro b=false)(a:b<3*n):h' b=h b:=k.blk g hb a
theorem zcc (k:Nat){h:HF}(M:GK.G h){n:Nat}(P:20≤n){a:Option Addr}(R:u<18446744073709551616)(g:GroT h n (gS a (gP T) (gP T)) T)(hT:gP T<1000000000):CF (cal (k+3)) 183 [gS a (gP T) (gP T),gZ .u64 (u:Int),gZ .i64 10] h n fun v h' n' w=>AS h n (gS a (gP T) (gP T)) h' n' w v (T++decN u):=by
 refine zw (fn:=Tryz.f183) R4 ?_;have D:=AS.refl g;have a6:gP (decN u)≤20:=by
  unfold decN;split
  ·decide
  unfold decB;rw [mu];exact ws 20 u zo
 refine Ze ?_;refine Zd ?_;rw [ze rfl];refine zN ?_;by_cases hsm:u<100
 ·refine Zx ?_;refine vj (a:=(u:Int)) R7 zo ?_;refine yi _ R5 (ka (k+1) _ _ hsm) ?_;rintro _ rfl;refine oi R9 zb rfl (aZ (V:=u)) (by have:=di u;cases hh:decN u with|nil=>exact eN hh this|cons _ _=>simp) rfl zo D ?_;intro Y h' Z F _;obtain ⟨C,rfl⟩:=F.g.shape;refine Zk ?_;exact retH [gS C _ _] R3 F
 have A:u≠0:=zo;refine Zl ?_;refine wt (ns 24 (gZ .u8 0)) R6 ?_;intro K S I;refine Ze ?_;refine yi _ R5 (vy k (rR M I P) _ R A) ?_;rintro _ ⟨L,rfl,i,a4,p,q⟩;refine Zs ?_;refine te (j:=L) R8 rfl (zB n) zo ?_;refine zM ?_;refine zF _ R5 (kN (k+1) (h:=K) (n:=n+1) (B:=3*n+2) (o:=0) (L:=L) (U:=u) zo S (by rw [ru];omega) zo p zo) ?_;rintro v h2 _ W ⟨rfl,N,c,f⟩;rw [zV fun b O=>by rw [N b O];show 3*n≤_;omega];have a5:gP c=24:=by rw [f.len,ru]
 have J:=(D.ext I zs).only f.oth zo (zB n);have s:=f.cells (by rw [ru];omega) i p q;have y:decN u=decB u:=by unfold decN;rw [eP A]
 rw [←y] at s;refine Zn ?_;refine te (j:=L) R8 rfl (zB n) zo ?_;refine oi R9 zb rfl (wV f.row s zo zo) i (by rw [y];exact aj i p q) zo J ?_;intro Y h' Z H _;obtain ⟨C,rfl⟩:=H.g.shape;refine Zk ?_;exact retH [gS C _ _] R3 H
theorem dD (k:Nat){h:HF}(j:GK.G h){n:Nat}(q:20≤n){a:Option Addr}(s:u<18446744073709551616)(g:GroT h n (gS a (gP T) (gP T)) T)(p:gP T<1000000000):CF (cal (k+4)) 181 [gS a (gP T) (gP T),gZ .u64 (u:Int),gZ .i64 10] h n fun v h' n' w=>AS h n (gS a (gP T) (gP T)) h' n' w v (T++decN u):=by
 refine zw (fn:=Tryz.f181) R4 ?_;refine Ze ?_;refine Zn ?_;refine zM ?_;refine zF _ R5 (zcc k j q s g p) ?_;intro v y A B c;obtain ⟨f,rfl⟩:=c.g.shape;have i:=(AS.refl g).trans c;refine Zk ?_;exact retH [gS f _ _] R3 i
end
section
variable {len u:Nat}{c:List Value}{T:List Nat}
section
variable {h:HF}{n:Nat}{sT:TypeId}{x:Value}
theorem tG (a:E.und sT=some (.slice e)∧E.inf e=some (1,bytes,z)∧gP (zn z)=1)(q:1≤bytes)(hx:argS h 1 x m new)(hb:(len+m)*bytes≤1099511627776)(hm:gP new=m∧1≤m)(hc:len+m≤cap)(y:h b=some (.row c e'))(C:len+m≤gP c)(w:ones new=true):
  yW E h n sT (gS (some ⟨b,0,none⟩) len cap) x=some (.val (gS (some ⟨b,0,none⟩) (len+m) cap) (upd h b (some (.row (zu c len new) e'))) n [b]):=by
 obtain ⟨a,s,A⟩:=a;obtain ⟨f,d⟩:=hx;have g:Ag ((len+m)*bytes) 1099511627776=true:=oo hb;have i:AD (gP (zn z)) 1=true:=by rw [A];exact Nat.beq_refl _
 have j:Ag 1 1=true:=rfl;have l:Ag 1 bytes=true:=oo q;have o:Ag (len+m) cap=true:=oo hc;have p:vA h ((⟨b,0,none⟩:Addr).add (len*1)) new=some (upd h b (some (.row (zu c len new) e'))):=by
  rw [wO,sb,AH,uZ y zo w]
 obtain ⟨v,r,rfl⟩:∃v r,new=v::r:=by
  cases new with
  |nil=>simp at hm;omega
  |cons v r=>exact ⟨v,r,rfl⟩
 simp only [yW,a,s,f,d,g,i,j,l,o,AV,uB,p]
end
def BufT (T:List Nat)(h:HF)(n B cap:Nat)(e:TypeId)(c0:List Value)(N:List Nat)(v:Value)(h':HF)(n':Nat)(w:List Nat):Prop:=
 v=gS (some ⟨B,0,none⟩) (gP (T++N)) cap∧n≤n'∧(∀b∈w,b=B)∧(∀b,b<3*n→b≠B→h' b=h b)∧∃c,h' B=some (.row c e)∧gP c=gP c0∧c.take (gP (T++N))=u8s (T++N)
theorem vp {N:List Nat}(d:c.take (gP T)=u8s T)(a:gP T+gP N≤gP c):(zu c (gP T) (u8s N)).take (gP (T++N))=u8s (T++N)∧(zu c (gP T) (u8s N)).length=gP c:=by
 have h:=pU (c:=u8s N) (cs:=c) (o:=gP T) (by rw [rU];exact a);rw [rU,d] at h;rw [k0];exact ⟨h.1.trans (by simp [u8s]),h.2⟩
theorem sV (k:Nat){h:HF}(S:GK.G h){n:Nat}(Z:20≤n){e:TypeId}(K:c0.take (gP T)=u8s T)(F:B<3*n)(p:h B=some (.row c0 e))(a1:cap=gP c0∧gP T+20≤cap∧cap<1000000)(hu:u<18446744073709551616):
  CF (cal (k+3)) 183 [gS (some ⟨B,0,none⟩) (gP T) cap,gZ .u64 (u:Int),gZ .i64 10] h n fun v O n' w=>BufT T h n B cap e c0 (decN u) v O n' w:=by
 refine zw (fn:=Tryz.f183) R4 ?_;have a3:gP (decN u)≤20:=by
  unfold decN;split
  ·decide
  unfold decB;rw [mu];exact ws 20 u zo
 have M:1≤gP (decN u):=by
  have:=di u;cases hh:decN u with
  |nil=>exact eN hh this
  |cons _ _=>simp
 refine Ze ?_;refine Zd ?_;rw [ze rfl];refine zN ?_;by_cases hsm:u<100
 ·refine Zx ?_;refine vj (a:=(u:Int)) R7 zo ?_;refine yi _ R5 (ka (k+1) _ _ hsm) ?_;rintro _ rfl;refine yM R5 (tG R3 zb (aZ (V:=u)) zo ⟨rU _,M⟩ zo p zo (rE _)) ?_;rw [pN (by show B<3*n;exact F)];refine Zk ?_;obtain ⟨H,I⟩:=vp (N:=decN u) K zo;refine retH [gS (some ⟨B,0,none⟩) (gP T+gP (decN u)) cap] R3 ⟨by rw [k0];rfl,eU,fun b d=>qq.1 d,fun b _ l=>zm l,_,zg _ _ _,I,H⟩
 have D:u≠0:=zo;refine Zl ?_;refine wt (ns 24 (gZ .u8 0)) R6 ?_;intro P p1 J;refine Ze ?_;refine yi _ R5 (vy k (rR S J Z) _ hu D) ?_;rintro _ ⟨L,rfl,g,a0,i,y⟩;refine Zs ?_;refine te (j:=L) R8 rfl (zB n) zo ?_;refine zM ?_;refine zF _ R5 (kN (k+1) (h:=P) (n:=n+1) (B:=3*n+2) (o:=0) (L:=L) (U:=u) zo p1 (by rw [ru];omega) zo i zo) ?_;rintro v R _ W ⟨rfl,Y,c,f⟩;rw [zV fun b d=>by rw [Y b d];show 3*n≤_;omega];have a2:gP c=24:=by rw [f.len,ru]
 have A:=f.cells (by rw [ru];omega) g i y;have C:decN u=decB u:=by unfold decN;rw [eP D]
 rw [←C] at A;have s:gP (decN u)=L:=by rw [C];exact aj g i y
 have q:R B=some (.row c0 e):=(f.oth B zo).trans ((J B F).trans p);refine Zn ?_;refine te (j:=L) R8 rfl (zB n) zo ?_;refine yM R5 (tG R3 zb (wV f.row A zo zo) zo ⟨by rw [rU,s],g⟩ zo q zo (rE _)) ?_;rw [pN (by show B<3*n;exact F)];refine Zk ?_;obtain ⟨H,I⟩:=vp (N:=decN u) K zo;refine retH [gS (some ⟨B,0,none⟩) (gP T+L) cap] R3 ⟨by rw [k0,s];rfl,by show n≤n+1;omega,fun b d=>qq.1 d,fun b d l=>(zm l).trans ((f.oth b zo).trans (J b d)),_,zg _ _ _,I,H⟩
def BufP (h:HF)(n B cap:Nat)(e:TypeId)(c0:List Value)(u:Nat)(v:Value)(h':HF)(n':Nat)(w:List Nat):Prop:=
 v=gS (some ⟨B,0,none⟩) (gP (decN u)) cap∧n≤n'∧(∀b∈w,b=B)∧(∀b,b<3*n→b≠B→h' b=h b)∧∃c,h' B=some (.row c e)∧gP c=gP c0∧c.take (gP (decN u))=u8s (decN u)
theorem gp (k:Nat){h:HF}(y:GK.G h){n:Nat}(C:20≤n){e:TypeId}(s:B<3*n)(d:h B=some (.row c0 e))(a:cap=gP c0∧20≤cap)(f:cap<1000000)(D:u<18446744073709551616):
  CF (cal (k+4)) 181 [gS (some ⟨B,0,none⟩) 0 cap,gZ .u64 (u:Int),gZ .i64 10] h n fun v q F w=>BufP h n B cap e c0 u v q F w:=by
 refine zw (fn:=Tryz.f181) R4 ?_;refine Ze ?_;refine Zn ?_;refine zM ?_;refine zF _ R5 (sV (T:=[]) k y C rfl s d ⟨a.1,by simpa using a.2,f⟩ D) ?_;rintro v H I J ⟨rfl,g,i,j,c,l,o,p⟩;refine Zk ?_;refine retH [gS (some ⟨B,0,none⟩) (gP (decN u)) cap] R3 ⟨rfl,g,fun b A=>?_,j,c,l,o,p⟩;rcases yN.1 A with h|⟨h,_⟩
 ·exact eN h og
 exact i b h
end
def padD:Nat→Nat→List Nat
 |0,_=>[]
 |k+1,c=>padD k (c/10)++[c%10]
theorem zi4:∀(k c Q:Nat),c<10^k→Q≠0→decD (c+10^k*Q)=decD Q++padD k c:=by
 intro k;induction k with
 |zero=>
  intro c Q a b;have:c=0:=by rw [BL] at a;omega
  subst this;rw [BL,BR,sb,padD,Am]
 |succ k ih=>
  intro c Q a b;rw [Ac] at a;have d:(c+10^(k+1)*Q)/10=c/10+10^k*Q:=by
   rw [Ac,Do,pe _ 10];omega
  have e:(c+10^(k+1)*Q)%10=c%10:=by
   rw [Ac,Do,pe _ 10];omega
  have f:0<10^(k+1)*Q:=CP (AW zd) zo;rw [wy zo,d,e,ih (c/10) Q zo b,padD,Ak]
theorem zms:∀(k c:Nat),c<10^k→padD k c=ns (k-gP (decD c)) 0++decD c:=by
 intro k;induction k with
 |zero=>
  intro c a;have:c=0:=by rw [BL] at a;omega
  subst this;rw [padD,xo];rfl
 |succ k ih=>
  intro c a;rw [Ac] at a;rw [padD,ih (c/10) zo];by_cases h0:c=0
  ·subst h0;rw [xo];show ns (k-0) 0++[]++[0]=ns (k+1-0) 0++[];rw [Am,Am,C5,C5,←CD]
  have b:=wy h0;rw [b,k0,Ak];congr 2;show k-gP (decD (c/10))=k+1-(gP (decD (c/10))+1);omega
theorem dk {c Q B:Nat}(l:10^19=B)(a:c<B)(d:Q≠0):decN (c+B*Q)=decN Q++(ns (19-gP (decN c)) 48++decN c):=by
 subst l;have b:0<10^19*Q:=CP (AW zd) zo;generalize hk:(19:Nat)=kk at a b ⊢;have m:=zi4 kk c Q a d;have j:=zms kk c a;have e:decN (c+10^kk*Q)=decB (c+10^kk*Q):=by
  unfold decN;rw [eP zo]
 have i:decN Q=decB Q:=by unfold decN;rw [eP d]
 rw [e,i];unfold decB;rw [m,j,AP,AP,List.map_replicate];congr 1;by_cases h0:c=0
 ·subst h0;have f:decN 0=[48]:=rfl;rw [f,xo];show ns (kk-0) (48+0)++[]=ns (kk-1) 48++[48];rw [←CD,Am,←hk]
 have g:decN c=decB c:=by unfold decN;rw [eP h0]
 rw [g];unfold decB;rw [mu]
theorem zbu {c Q:Nat}(b:c<10000000000000000000)(a:Q≠0):decN (c+10000000000000000000*Q)=decN Q++(ns (19-gP (decN c)) 48++decN c):=dk zd b a
theorem zbt {c:Nat}(a:c<10000000000000000000):gP (decN c)≤19:=by
 unfold decN;split
 ·decide
 unfold decB;rw [mu];exact ws 19 c (Af a zd)
section
variable {len lo n':Nat}{sT ty:TypeId}{c:List Value}{T:List Nat}{h' h0:HF}{x:Operand}
theorem Gro.inv {h:HF}{n:Nat}(g:Gro h lo n e 1 v len c)(a:len≠0):∃b,v=gS (some ⟨b,0,none⟩) len len∧3*lo≤b∧b<3*n∧h b=some (.row c e)∧gro b=true:=by
 cases g with
 |nil=>exact eN rfl a
 |at_ hg hlo hb hr a ho=>exact ⟨_,rfl,hlo,hb,hr,hg⟩
def CB:Nat:=10000000000000000000
theorem zf8 {L:List Nat}{d:Nat}(a:WdD L)(f:gP L≤30)(u:wv L=d+CB^gP C*V)(h0:V≠0):gP C≤30:=by
 apply tp;intro y;have g:CB^31≤CB^gP C:=sN zd zo;have l:=BG (CB^gP C) (CT h0);have p:=wW a;have q:18446744073709551616^gP L≤18446744073709551616^30:=sN zd f;have s:18446744073709551616^30≤CB^31:=by decide+kernel
 omega
structure TxI (n0:Nat)(v0:Value)(hL:HF)(nL B:Nat)(eB:TypeId)(h:HF)(n:Nat)(w:List Nat)(a:Option Addr)(T:List Nat):Prop where
 hn:nL≤n
 g:GroT h n (gS a (gP T) (gP T)) T
 or:gS a (gP T) (gP T)=v0∨xC nL (gS a (gP T) (gP T))
 hw:∀b∈w,zch v0 b
 fr:∀b,b<3*nL→b≠B→¬zch v0 b→h b=hL b
 buf:∃c,h B=some (.row c eB)∧gP c=20
theorem TxI.ext {l:HF}{f:Nat}{h:HF}{n:Nat}{w:List Nat}{a:Option Addr}(t:TxI n0 v0 l f B eB h n w a T)(x:Ext n h h')(y:n≤n')(F:B<3*f):TxI n0 v0 l f B eB h' n' w a T:=by
 have D:=t.hn;obtain ⟨c,q,s⟩:=t.buf;exact ⟨zo,t.g.ext x y,t.or,t.hw,fun b u p A=>(x b zo).trans (t.fr b u p A),c,(x B zo).trans q,s⟩
theorem TxI.bufs {q:HF}{p:Nat}{h:HF}{n:Nat}{w:List Nat}{a:Option Addr}{c:List Nat}(t:TxI n0 v0 q p B eB h n w a T)(F:n≤n')(J:B<3*p)(u:gro B=false)(y:∀b,b<3*n→b≠B→h' b=h b)(G:h' B=some (.row cs eB))(D:gP cs=20):TxI n0 v0 q p B eB h' n' w a T:=by
 have I:=t.hn;refine ⟨zo,?_,t.or,t.hw,fun b l f H=>(y b zo f).trans (t.fr b l f H),cs,G,D⟩;have A:GroT h' n (gS a (gP T) (gP T)) T:=t.g.same fun b _ l s=>y b l fun e=>by rw [e,u] at s;cases s
 exact A.ext (Ext.refl n h') F
section
variable {h:HF}{n:Nat}{d:Tmp}
theorem zc6 {s:Operand}{H:HF}{u:Nat}{m:Nat}{a:Option Addr}{new:List Nat}(G:Za X ops t o d (o.op=.call {callee:=.builtin .append,args:=#[s,x],argTypes:=#[sT,xT]}∧(match X.E.und xT with|some (.int _)=>false|none=>false|_=>true)=true∧X.E.und sT=some (.slice e)∧e=5∧X.E.inf e=some (1,bytes,z)∧gP (zn z)=1))(N:1≤bytes)(Z:evF t s=gS a (gP T) (gP T))(hx:argS h 1 (evF t x) m (u8s new))(hm:1≤m)(U:gP new=m)(hb:(gP T+m)*bytes≤1099511627776)(p:TxI X.n0 v0 H u B eB h n w a T)(hB:B<3*u)(I:gro B=false)(h0:X.n0≤u)
  (k:∀A h' w',TxI X.n0 v0 H u B eB h' (n+1) w' A (T++new)→h' B=h B→EO X ops r ⟨upd t d (gS A (gP (T++new)) (gP (T++new))),h',n+1,w'⟩ Q):EO X ops (o::r) ⟨t,h,n,w⟩ Q:=by
 obtain ⟨G,hd,hn,Y,M,hu,S,hi,hz⟩:=G;obtain ⟨v',h',W,O,F,f,P,R⟩:=nH hu S hi hz N p.g hx hm U hb;obtain ⟨A,rfl⟩:=F.shape;have J:=p.hn;have L:∀b,b<3*u→¬zch v0 b→∀o l c,gS a (gP T) (gP T)≠gS (some ⟨b,o,none⟩) l c:=fun b hb hv o l c q=>by
  rcases p.or with y|y
  ·exact hv ⟨o,l,c,y▸q⟩
  rw [q] at y;have y:3*u≤b:=y;omega
 have D:h' B=h B:=f B zo fun o l c q=>by have:=(p.g.blk q).1;rw [I] at this;cases this
 refine yM ⟨G,hd,hn,Y,M⟩ (by rw [Z];exact O) (k A h' _ ⟨zo,F,.inr (R.mono J),fun b hb=>?_,fun b hb K hv=>(f b zo (L b hb hv)).trans (p.fr b hb K hv),?_⟩ D)
 ·rcases yN.1 hb with h|⟨h,F⟩
  ·exact p.hw b h
  obtain ⟨o,l,c,q⟩:=P b h;rcases p.or with f|f
  ·exact ⟨o,l,c,f▸q⟩
  rw [q] at f;have f:3*u≤b:=f;omega
 obtain ⟨c,q1,q2⟩:=p.buf;exact ⟨c,D.trans q1,q2⟩
end
theorem TxI.as {f:HF}{q:Nat}{h:HF}{n:Nat}{w:List Nat}{a:Option Addr}(t:TxI n0 v0 f q B eB h n w a T)(x:Ext n0 h0 f)(s:n0≤q)(y:3*n0≤B):AS h0 n0 v0 h n w (gS a (gP T) (gP T)) T:=by
 refine ⟨by have:=t.hn;omega,fun b u p=>(t.fr b zo zo fun ⟨o,l,c,e⟩=>p o l c e).trans (x b u),t.hw,t.g,?_⟩;rcases t.or with h|h
 ·exact .inl h
 exact .inr (h.mono s)
theorem G_fr {h:HF}(p:GK.G h)(a:∀b,b<60→gro b=false→h' b=h b):GK.G h':=by
 obtain ⟨f,g,l⟩:=p;exact ⟨(a _ zo rfl).trans f,(a _ zo rfl).trans g,(a _ zo rfl).trans l⟩
theorem zcn {h:HF}{s:Nat}{S:List Nat}(f:h b=some (.row (u64s S) e))(hj:S[j]?=some s):At h b (0+j*1) [gZ .u64 (s:Int)]:=by
 have a:=(nN.1 hj).1;refine ⟨_,_,f,rfl,by show 0+j*1+1≤_;rw [zL];omega,?_⟩;show ((u64s S).drop (0+j*1)).take 1=_;rw [sb,AH,rf,Bw a,(nN.1 hj).2];rfl
def lH (C:List Nat)(m:Nat):List Nat:=if m=gP C then [] else decN (dv CB (C.drop m))
theorem znr {m c:Nat}(h:C[m]?=some c):dv CB (C.drop m)=c+CB*dv CB (C.drop (m+1)):=by
 have a:=(nN.1 h).1;rw [Bw a,(nN.1 h).2];rfl
theorem znp {a:List Nat}{cl:Nat}(f:C=a++[cl])(h0:cl≠0){m:Nat}(hm:m<gP C):dv CB (C.drop m)≠0:=by
 rw [f,List.drop_append_of_le_length (by rw [f,k0] at hm;simp at hm;omega),vm];show _+CB^_*(cl+CB*0)≠0;have:0<CB^gP (a.drop m)*(cl+CB*0):=CP (AW zd) zo;omega
theorem zai {f:List Nat}{cl m c:Nat}(g:C=f++[cl])(h0:cl≠0)(a:C[m]?=some c)(hb:c<CB):lH C m=lH C (m+1)++(ns ((if m+1=gP C then gP (decN c) else 19)-gP (decN c)) 48++decN c):=by
 have l:=(nN.1 a).1;unfold lH;rw [eP zo,znr a];by_cases he:m+1=gP C
 ·rw [eS he,eS he,he,BE,AO];show decN (c+CB*0)=_;rw [Bp,AJ];rfl
 rw [eP he,eP he];exact zbu hb (znp g h0 zo)
section
variable {h:HF}{n:Nat}{d:Tmp}
theorem zix (a:Za X ops t o d (o.op=.slice ty x none (some hi) none∧X.E.und ty=some (.array len e)∧X.E.inf e=some (sz,bt,z)∧evF t x=mo (some ⟨b,0,none⟩)∧evF t hi=gZ ik' ji∧ji=(j:Int)))(hb:gro b=false)(F:j≤len∧0<len)
  (k:ED X ops r ms (i+1) ⟨⟨upd t d (gS (some ⟨b,0,none⟩) j len),h,n,w⟩,al,ld,ef⟩ Q):ED X ops (o::r) (m::ms) i ⟨⟨t,h,n,w⟩,al,ld,ef⟩ Q:=by
 obtain ⟨a,u,y,p,A,g,D,f,l⟩:=a;subst l;refine yQ a u y (by rw [p];rfl) ?_ k;rw [p];show xc X.E ty (evF t x) none (some (evF t hi))=_;rw [D,f];have q:(0:Int)≤(j:Int)∧(j:Int)≤(len:Int):=zo;have s:AD len 0=false:=by
  cases he:AD len 0 with
  |false=>rfl
  |true=>have:=Ay he;omega
 simp only [xc,A,g,bnd,eS q,A9,hb,Fa,GW,offA,s,wO,Bg,C5]
end
theorem zag {L q:List Nat}{r:Nat}(a:wv L=dv CB C+CB^gP C*wv W)(f:wv W=CB*wv q+r):wv L=dv CB (C++[r])+CB^(gP C+1)*wv q:=by
 rw [a,f,vm,Ac];show _=dv CB C+CB^gP C*(r+CB*0)+_;rw [Bp,AJ,Nat.mul_add,Nat.mul_assoc,EB,Bj (CB^gP C*r)]
theorem gt (k:Nat){h:HF}(hG:GK.G h){n:Nat}(hn:20≤n){a:Option Addr}(g:GroT h n (gS a (gP T) (gP T)) T)(hT:gP T<100000000){L:List Nat}(hs:Sl h n 1 (gS ax lx cx) (u64s L))(nL:NW L)(hl:gP L≤30)(h0:L≠[]):
  CF (cal (k+5)) 208 [gS a (gP T) (gP T),gS ax lx cx,gZ .i64 0] h n fun v h' n' w=>AS h n (gS a (gP T) (gP T)) h' n' w v (T++decN (wv L)):=by
 refine zw (fn:=Tryz.f208) R4 ?_;have b4:=hs.lenW;subst b4;have af:gP L≠0:=fun e=>h0 (vT.1 e);refine Ze ?_;refine Ze ?_;refine zF _ R5 (ub (k+3) hs zo) ?_;rintro vw h1 P _ ⟨rfl,c6,bp,bl,ak⟩;obtain ⟨A,rfl,c2,bc,bk,c3⟩:=(ak h0).inv af;clear ak bl;refine Zs ?_;refine zN ?_;refine ye (α:=List Nat×List Nat×List Nat×Option Addr) (fun z=>[(0,gS a (gP T) (gP T)),(2,gZ .i64 0),(7,gS (some ⟨A,0,none⟩) (gP z.1) (gP L)),(8,gS z.2.2.2 (gP z.2.2.1) (gP z.2.2.1))])
  (fun z h' n' w=>w=[]∧P≤n'∧Ext n h h'∧h' A=some (.row (u64s (z.1++z.2.1)) 196)∧gP z.1+gP z.2.1=gP L∧NW z.1∧Gro h' P n' 196 1 (gS z.2.2.2 (gP z.2.2.1) (gP z.2.2.1)) (gP z.2.2.1) (u64s z.2.2.1)∧(∀c∈z.2.2.1,c<CB)∧wv L=dv CB z.2.2.1+CB^gP z.2.2.1*wv z.1∧(wv z.1=0→∃C' c,z.2.2.1=C'++[c]∧c≠0)∧gP z.2.2.1≤31) (fun z=>32-gP z.2.2.1)
  (L,[],[],none) ⟨rfl,rfl,rfl,rfl,eT⟩ ⟨rfl,eU,bp,by rw [Am];exact bk,rfl,nL,.nil,fun c hc=>eN hc og,by show wv L=0+CB^0*wv L;rw [BL];omega,fun e=>eN (nL.zero.1 e) h0,by show 0≤31;omega⟩ (by show 32-0<LL;unfold LL;omega) ?_
 rintro ⟨W,R,C,a8⟩ t h2 p _ ⟨rfl,c7,av,ac,an,nW,a2,hC,hV,K,a3⟩;have ac:h2 A=some (.row (u64s (W++R)) 196):=ac;have an:gP W+gP R=gP L:=an;have nW:NW W:=nW;have a2:Gro h2 P p 196 1 (gS a8 (gP C) (gP C)) (gP C) (u64s C):=a2;have hC:∀c∈C,c<CB:=hC;have hV:wv L=dv CB C+CB^gP C*wv W:=hV;have K:wv W=0→∃C' c,C=C'++[c]∧c≠0:=K;have a3:gP C≤31:=a3;refine zN ?_;by_cases hW0:W=[]
 ·subst hW0;have b9:wv L=dv CB C:=by rw [hV];show _+_*0=_;omega
  obtain ⟨C',cl,ag,b0⟩:=K rfl;have b5:gP C≠0:=by rw [ag,k0];simp
  refine Zl ?_;refine wt (ns 20 (gZ .u8 0)) R6 ?_;intro H pL xL;refine Ze ?_;refine Zd ?_;obtain ⟨eB,pL⟩:∃e,H (3*p+2)=some (.row (ns 20 (gZ .u8 0)) e):=⟨_,pL⟩;have ad:Ext n h H:=av.trans xL zo;have gC:Gro H P (p+1) 196 1 (gS a8 (gP C) (gP C)) (gP C) (u64s C):=a2.ext xL zs;obtain ⟨b8,Z,bx,aw,ay,a4⟩:=gC.inv b5;injection Z with Z
  subst Z;have gT:GroT H (p+1) (gS a (gP T) (gP T)) T:=g.ext ad zo;have br:TxI n (gS a (gP T) (gP T)) H (p+1) (3*p+2) eB H (p+1) [] a T:=⟨eU,gT,.inl rfl,fun b I=>eN I og,fun _ _ _ _=>rfl,ns 20 (gZ .u8 0),pL,ru⟩;have ar:∀b,zch (gS a (gP T) (gP T)) b→gro b=true∧b<3*n:=fun b ⟨o,l,c,e⟩=>g.blk e;refine ye (α:=Nat×Option Addr×List Nat) (fun z=>[(0,gS z.2.1 (gP z.2.2) (gP z.2.2)),(2,gZ .i64 0),(8,gS (some ⟨b8,0,none⟩) (gP C) (gP C)),(11,mo (some ⟨3*p+2,0,none⟩)),(12,jx (decide (z.1=gP C))),(13,gZ .i64 ((z.1:Int)-1))])
   (fun z h' n' w=>TxI n (gS a (gP T) (gP T)) H (p+1) (3*p+2) eB h' n' w z.2.1 z.2.2∧z.1≤gP C∧z.2.2=T++lH C z.1∧gP z.2.2≤gP T+19*(gP C-z.1)) (fun z=>z.1)
   (gP C,a,T) ⟨rfl,rfl,rfl,rfl,by show jx true=jx (decide (gP C=gP C));rw [eH rfl],rfl,eT⟩ ⟨br,eU,by show T=T++lH C (gP C);unfold lH;rw [eS rfl,Am],Nat.le_add_right _ _⟩ (by show gP C<LL;unfold LL;omega) ?_
  rintro ⟨m,a1,u⟩ t F n3 w3 ⟨U,hm,a0,ah⟩;have U:TxI n (gS a (gP T) (gP T)) H (p+1) (3*p+2) eB F n3 w3 a1 u:=U;have hm:m≤gP C:=hm;have a0:u=T++lH C m:=a0;have ah:gP u≤gP T+19*(gP C-m):=ah;have c8:=U.hn;refine zN ?_;cases m with
  |zero=>
   have hf:decide (0=gP C)=false:=cA zo;rw [hf];refine Zz ?_;refine zN ?_;rw [za rfl];refine Zn ?_;refine zN ?_;have:=U.as ad zo zo;rw [show T++decN (wv L)=u by rw [a0,b9];unfold lH;rw [eP zo,Av]];exact retH [gS a1 _ _] R3 this
  |succ m=>
   obtain ⟨c,hc⟩:∃c,C[m]?=some c:=⟨C[m]'zo,kF zo⟩;have a6:c<CB:=hC c (mp hc);have az:c<18446744073709551616:=EZ a6 zd;have bv:=zbt a6;have b6:1≤gP (decN c):=by
    have:=di c;cases hh:decN c with
    |nil=>exact eN hh this
    |cons _ _=>simp
   have bj:F b8=some (.row (u64s C) 196):=(U.fr b8 aw (fun e=>by rw [e,zB] at a4;cases a4) (fun hv=>by have:=(ar _ hv).2;omega)).trans ay;have bb:=zcn bj hc;have b7:GK.G F:=G_fr (rR hG ad hn) fun b I hg=>U.fr b zo zo fun hv=>by have:=(ar _ hv).1;rw [hg] at this;cases this
   obtain ⟨cb,be,a9⟩:=U.buf;refine Zt ?_;refine zl [0,0,0,6,14,31,63] rfl ?_;refine zix (j:=0) R9 (zB p) zo ?_;refine zE ?_;refine zE ?_;refine zjx rfl rfl rfl rfl rfl rfl (aq:=some ⟨b8,0,none⟩) rfl (j:=m) (by show gZ .i64 _=gZ .i64 _;congr 1;omega) rfl zo ?_;refine yd (v:=gZ .u64 (c:Int)) R6 (bb.ld1 0 rfl rfl) R2 ?_;refine wa _ R7 (gp k b7 zo zo be ⟨a9.symm,zo⟩ zo az) ?_;rintro v4 h4 n4 W4 ⟨rfl,ao,ba,bh,c4,ap,bg,bf⟩;refine ⟨qR rfl,ao,?_⟩;rw [zV fun b I=>by rw [ba b I];show 3*n≤_;omega];refine zE ?_;refine zN ?_;have bs:=U.bufs (c:=[]) ao zo (zB _) bh ap (by rw [bg,a9]);obtain ⟨S,hS⟩:∃S,S=if m+1=gP C then gP (decN c) else 19:=⟨_,rfl⟩
   have c0:gP (decN c)≤S∧S≤19:=by rw [hS];split<;>omega
   refine Zs ?_;refine zN ?_;refine zra [(0,gS a1 (gP u) (gP u)),(2,gZ .i64 0),(8,gS (some ⟨b8,0,none⟩) (gP C) (gP C)),(11,mo (some ⟨3*p+2,0,none⟩)),(12,jx (decide (m+1=gP C))),(13,gZ .i64 (((m+1:Nat):Int)-1)),(14,gS (some ⟨3*p+2,0,none⟩) (gP (decN c)) 20),(15,gZ .i64 (S:Int))] (fun h' n' w'=>h4=h'∧n4=n'∧w3=w') ?_ ?_
   ·by_cases hf:m+1=gP C
    ·rw [ze (by show jx (decide (m+1=gP C))=_;rw [eH hf])];refine Zn ?_;refine Zc ?_;refine st_mul (a:=19) (b:=((m+1:Nat):Int)-1) rfl rfl rfl rfl rfl rfl zo ?_;refine qO (a:=0) (b:=19*(((m+1:Nat):Int)-1)) R6 zo ?_;refine st_I (ik:=.i64) (a:=(S:Int)) ⟨rfl,rfl,rfl,rfl,?_⟩ ?_
     ·show some (gZ .i64 (if ((gP (decN c):Nat):Int)<0-19*(((m+1:Nat):Int)-1) then 0-19*(((m+1:Nat):Int)-1) else ((gP (decN c):Nat):Int)))=_;rw [eP zo,hS,eS hf]
     refine Zk ?_;exact zlb ⟨rfl,rfl,rfl,rfl,rfl,rfl,rfl,rfl,eT⟩ ⟨rfl,rfl,rfl⟩
    rw [za (by show jx (decide (m+1=gP C))=_;rw [cA hf])];refine zN ?_;exact zlb ⟨rfl,rfl,rfl,rfl,rfl,rfl,rfl,by show gZ .i64 19=gZ .i64 (S:Int);rw [hS,eP hf];rfl,eT⟩ ⟨rfl,rfl,rfl⟩
   rintro t _ _ _ ⟨rfl,rfl,rfl⟩;refine Zn ?_;refine zM ?_;refine qO (a:=(S:Int)) (b:=((gP (decN c):Nat):Int)) R6 zo ?_;obtain ⟨N,hN⟩:∃N,N=S-gP (decN c):=⟨_,rfl⟩;rw [show (S:Int)-((gP (decN c):Nat):Int)=(N:Int) by omega];refine Zk ?_;refine ye (α:=Nat×Option Addr×List Nat) (fun z=>[(0,gS z.2.1 (gP z.2.2) (gP z.2.2)),(2,gZ .i64 0),(8,gS (some ⟨b8,0,none⟩) (gP C) (gP C)),(11,mo (some ⟨3*p+2,0,none⟩)),(12,jx (decide (m+1=gP C))),(13,gZ .i64 (((m+1:Nat):Int)-1)),(14,gS (some ⟨3*p+2,0,none⟩) (gP (decN c)) 20),(70,gZ .i64 (N:Int)),(71,gZ .i64 (z.1:Int))])
    (fun z h' n' w=>TxI n (gS a (gP T) (gP T)) H (p+1) (3*p+2) eB h' n' w z.2.1 z.2.2∧h' (3*p+2)=h4 (3*p+2)∧z.1≤N∧z.2.2=u++ns z.1 48) (fun z=>N-z.1)
    (0,a1,u) ⟨rfl,rfl,rfl,rfl,rfl,rfl,rfl,rfl,rfl,eT⟩ ⟨bs,rfl,gH,by show u=u++[];rw [Am]⟩ (by show N-0<LL;unfold LL;omega) ?_
   rintro ⟨s,a5,M⟩ t h5 n5 w5 ⟨Y,ai,aa,O⟩;have Y:TxI n (gS a (gP T) (gP T)) H (p+1) (3*p+2) eB h5 n5 w5 a5 M:=Y;have aa:s≤N:=aa;have O:M=u++ns s 48:=O;have c5:gP M=gP u+s:=by rw [O,k0,ru]
   have c9:=Y.hn;refine zN ?_;by_cases hlt:s<N
   ·refine Zh ?_;refine Ze ?_;refine wE [gZ .u8 48] (l:=1) (c:=1) R5 ?_;intro h6 p6 x6;refine zc6 (m:=1) (new:=[48]) R9 zb rfl (yp p6 R2) eU rfl zo (Y.ext x6 zs zo) zo (zB _) (by show n≤p+1;omega) ?_;intro a7 h7 w7 ae aj;refine Zk ?_;refine zR ?_;refine Zk ?_;exact goOn (s+1,a7,M++[48]) (by show N-(s+1)<N-s;omega) ⟨rfl,rfl,rfl,rfl,rfl,rfl,rfl,rfl,rfl,eT⟩ ⟨ae,aj.trans ((x6 _ zo).trans ai),by show s+1≤N;omega,by show M++[48]=u++ns (s+1) 48;rw [O,Ak,←CD]⟩
   have bd:s=N:=zo;refine Zl ?_;refine Zc ?_;refine zc6 (m:=gP (decN c)) (new:=decN c) R9 zb rfl (wV (ai.trans ap) (by rw [Av];exact bf) zo zo) b6 rfl zo Y zo (zB _) (by show n≤p+1;omega) ?_;intro a7 h7 w7 ae aj;refine Zs ?_;refine Ze ?_;refine qO (a:=((m+1:Nat):Int)-1) (b:=1) R6 zo ?_;refine Zk ?_;refine goOn (m,a7,M++decN c) (by show m<m+1;omega) ⟨rfl,rfl,rfl,rfl,by show jx false=jx (decide (m=gP C));rw [cA zo],by show gZ .i64 _=gZ .i64 _;congr 1;omega,eT⟩ ⟨ae,by show m≤gP C;omega,?_,?_⟩
   ·show M++decN c=T++lH C m;rw [zai ag b0 hc a6,O,a0,bd,hN,hS];simp only [Ak]
   show gP (M++decN c)≤gP T+19*(gP C-m);rw [k0];omega
 have c1:gP W≠0:=fun e=>hW0 (vT.1 e);have b3:wv W≠0:=fun e=>hW0 (nW.zero.1 e);have bu:=zf8 nL.1 hl hV b3;refine Zh ?_;refine Ze ?_;refine Zd ?_;refine ye (α:=Nat×List Nat×Nat) (fun x=>[(0,gS a (gP T) (gP T)),(2,gZ .i64 0),(7,gS (some ⟨A,0,none⟩) (gP W) (gP L)),(8,gS a8 (gP C) (gP C)),(9,gZ .u64 (x.2.2:Int)),(10,gZ .i64 ((x.1:Int)-1))])
  (fun x h' n' w=>w=[]∧p=n'∧Only A h2 h'∧h' A=some (.row (u64s (W.take x.1++(x.2.1++R))) 196)∧x.1+gP x.2.1=gP W∧WdD x.2.1∧x.2.2<CB∧wv (W.drop x.1)=CB*wv x.2.1+x.2.2) (fun x=>x.1)
  (gP W,[],0) ⟨rfl,rfl,rfl,rfl,rfl,rfl,eT⟩ ⟨rfl,rfl,fun _ _=>rfl,by rw [xd,Au];exact ac,rfl,WdD.nil,by show 0<CB;decide,by rw [BE];rfl⟩ (by show gP W<LL;unfold LL;omega) ?_
 rintro ⟨j,q,r⟩ t F _ _ ⟨rfl,rfl,ab,D,am,hq,hr,J⟩;have D:F A=some (.row (u64s (W.take j++(q++R))) 196):=D;have am:j+gP q=gP W:=am;have hq:WdD q:=hq;have hr:r<CB:=hr;have J:wv (W.drop j)=CB*wv q+r:=J;have bq:Ext n h F:=av.st ab zo;refine zN ?_;cases j with
 |succ j=>
  obtain ⟨x,hx⟩:∃x,W[j]?=some x:=⟨W[j]'zo,kF zo⟩;have au:=nW.1.get hx;have bm:Sl F p 1 (gS (some ⟨A,0,none⟩) (gP W) (gP L)) (u64s (W.take (j+1)++q)):=.at_ zo D rfl zo (by rw [zL];simp;omega) (by
   rw [Av,AH,re,←Ak,Bu (by simp;omega),pq (by simp;omega)])
  have b2:(W.take (j+1)++q)[j]?=some x:=by rw [AG (by simp;omega),BA zo,hx]
  refine Zr ?_;refine yE (f:=fun d:Nat=>gZ .u64 (d:Int)) (j:=j) R7 bm ⟨rfl,zo⟩ b2 (fun _=>rfl) R4 fun _=>?_;refine yi _ R5 (pH (k+1) F p (y:=CB) hr au zd) ?_;rintro _ rfl;repeat refine zR ?_
  refine uH (j:=j) (v:=gZ .u64 (((r*18446744073709551616+x)/CB:Nat):Int)) R8 zo ⟨zo,by rw [zL];simp;omega⟩ D (by show 3*n≤A;omega) (fun _=>rfl) R3 (fun _=>rfl) rfl fun _=>?_;rw [yk,List.set_append_left _ _ (by simp;omega),List.take_add_one,hx,Option.toList_some,List.set_append_right _ _ (by rw [sn];omega),sn,AN zo,AO,Ea,Ak,List.singleton_append];refine Zo ?_;obtain ⟨g1,g2⟩:=pQ (V:=wv (W.drop (j+1))) (Vq:=wv q) (r:=r) (a:=x) (d:=CB) zd J;refine goOn (j,(r*18446744073709551616+x)/CB::q,(r*18446744073709551616+x)%CB) (by show j<j+1;omega) ⟨rfl,rfl,rfl,rfl,rfl,by show gZ .i64 _=gZ .i64 _;congr 1;omega,eT⟩ ⟨rfl,rfl,fun b I=>(zm I).trans (ab b I),(zg _ _ _).trans (by rw [List.cons_append]),by show j+gP (_::q)=_;simp;omega,?_,Az _ zd,?_⟩
  ·intro y hy;rcases Ad.1 hy with rfl|hy
   ·exact zck hr au
   exact hq y hy
  show wv (W.drop j)=CB*wv (_::q)+_;rw [gI hx,←g2];have:=Nat.div_add_mod (x+18446744073709551616*wv (W.drop (j+1))) CB;rw [g1] at this;exact this.symm
 |zero=>
  rw [By,Au] at D;rw [Av] at J;have ca:gP q=gP W:=zo;refine Zz ?_;have bn:Sl F p 1 (gS (some ⟨A,0,none⟩) (gP W) (gP L)) (u64s q):=.at_ zo D rfl zo (by rw [zL];simp;omega) (by
   rw [Av,AH,re,Bu zo,pq zo])
  refine zF _ R5 (xi (k+3) (l:=q) zo (fun _ e=>by injection e with e;rw [←e]) bn) ?_;rintro _ F p _ ⟨rfl,rfl,rfl,rfl,bz⟩;refine Zk ?_;refine Zc ?_;refine wE [gZ .u64 (r:Int)] (l:=1) (c:=1) R5 ?_;intro h4 p4 x4;have b1:Gro h4 P (p+1) 196 1 (gS a8 (gP C) (gP C)) (gP C) (u64s C):=(a2.same fun b I _ _=>ab b zo).ext x4 zs;refine cm (lo:=P) (m:=1) R8 ⟨tu rfl,tu rfl⟩ b1 (yp p4 R2) eU zo rfl rfl ⟨by show n≤_;omega,zo⟩ ?_;intro v5 h5 g5 x5 k5;obtain ⟨a5,rfl,_⟩:=g5.shape;have bi:h5 A=_:=(x5 A bc).trans ((x4 A zo).trans D);refine Zk ?_;have bo:=zag (C:=C) (r:=r) hV J;refine goOn (yf q,q.drop (gP (yf q))++R,C++[r],a5) (by show 32-gP (C++[r])<32-gP C;rw [k0];show 32-(gP C+1)<_;omega) ⟨rfl,rfl,rfl,by show gS a5 _ _=gS a5 _ _;rw [k0];rfl,eT⟩ ⟨rfl,by show P≤p+1+1;omega,?_,?_,?_,NW.trim hq,?_,?_,?_,?_,?_⟩
  ·exact fun b I=>(x5 b zo).trans ((x4 b zo).trans (bq b I))
  ·refine bi.trans ?_;show some (BF.row (u64s (q++R)) _)=some (BF.row (u64s (yf q++(q.drop (gP (yf q))++R))) _);rw [←Ak]
   conv=>rhs;rw [←rV q,sn,AN (xU q),List.take_append_drop]
  ·show (gP (yf q))+(q.drop (gP (yf q))++R).length=gP L;have:=xU q;rw [k0,sa];omega
  ·show Gro h5 P (p+1+1) _ 1 (gS a5 (gP (C++[r])) (gP (C++[r]))) (gP (C++[r])) (u64s (C++[r]));rw [vg,k0];exact g5
  ·intro c hc;rcases AY.1 hc with h|h
   ·exact hC c h
   rw [qq.1 h];exact hr
  ·show wv L=dv CB (C++[r])+CB^gP (C++[r])*wv (yf q);rw [show wv (yf q)=wv q from pv _ _,k0];exact bo
  ·intro e;have e:wv (yf q)=0:=e;rw [show wv (yf q)=wv q from pv _ _] at e;rw [e,Bp,sb] at J;exact ⟨C,r,rfl,zo⟩
  show gP (C++[r])≤31;rw [k0];show (gP C)+1≤31;omega
end
section
variable {h h':HF}{n n':Nat}{T:List Nat}
theorem dE (k:Nat)(o:GK.G h)(s:20≤n){a:Option Addr}(g:GroT h n (gS a (gP T) (gP T)) T)(p:gP T<100000000){i:Option Addr}{j:Nat}{L:List Nat}(d:Sl h n 1 (gS ax lx cx) (u64s L))(u:NW L)(q:gP L≤30)(h0:L≠[]):
  CF (cal (k+6)) 182 [gS a (gP T) (gP T),gS ax lx cx,gZ .i64 0,gS i 1 j] h n fun v h' n' w=>AS h n (gS a (gP T) (gP T)) h' n' w v (T++decN (wv L)):=by
 refine zw (fn:=Tryz.f182) R4 ?_;have c:=d.lenW;subst c;refine Ze ?_;refine Zd ?_;refine Zx ?_;refine zM ?_;refine zF _ R5 (gt k o s g p d u q h0) ?_;intro v y A B b;obtain ⟨e,rfl⟩:=b.g.shape;have f:=(AS.refl g).trans b;refine Zk ?_;exact retH [gS e _ _] R3 f
theorem nI (k:Nat)(C:GK.G h)(D:20≤n){a:Option Addr}(g:GroT h n (gS a (gP T) (gP T)) T)(J:gP T<100000000){L:List Nat}(s:Sl h n 1 (gS ax lx cx) (u64s L))(F:NW L)(K:gP L≤30):
  CF (cal (k+7)) 149 [gS a (gP T) (gP T),gS ax lx cx] h n fun v h' n' w=>AS h n (gS a (gP T) (gP T)) h' n' w v (T++decN (wv L)):=by
 refine zw (fn:=Tryz.f149) R4 ?_;have A:=s.lenW;subst A;refine Ze ?_;refine zN ?_;by_cases h0:L=[]
 ·subst h0;refine Zh ?_;refine Ze ?_;refine wE [gZ .u8 48] (l:=1) (c:=1) R5 ?_;intro p H y;refine oi (m:=1) (new:=[48]) R9 zb rfl (yp H R2) eU rfl zo ((AS.refl g).ext y zs) ?_;intro S h' U b _;obtain ⟨o,rfl⟩:=b.g.shape;refine Zk ?_;exact retH [gS o _ _] R3 b
 have I:gP L≠0:=fun e=>h0 (vT.1 e);refine Zl ?_;by_cases p:gP L=1
 ·obtain ⟨w,rfl⟩:=List.length_eq_one_iff.1 p;have u:w<18446744073709551616:=F.1 w gN;refine Zx ?_;refine yE (f:=fun d:Nat=>gZ .u64 (d:Int)) (j:=0) (dv:=w) R7 s R2 rfl (fun _=>rfl) R4 fun _=>?_;refine zF _ R5 (dD (k+2) C D u g zo) ?_;intro v p O V b;obtain ⟨o,rfl⟩:=b.g.shape;have q:=(AS.refl g).trans b;refine Zk ?_;rw [pP];exact retH [gS o _ _] R3 q
 refine Zl ?_;refine wE [gZ .u64 10000000000000000000] (l:=1) (c:=1) R5 ?_;intro p H y;refine wE [gS (some ⟨3*n+2,0,none⟩) 1 1] (l:=1) (c:=1) R5 ?_;intro B R M;refine Zk ?_;have i:Ext n h B:=y.trans M zo;refine ye (α:=Nat) (fun _=>[(0,gS a (gP T) (gP T)),(1,gS ax (gP L) cx),(5,gS (some ⟨3*(n+1)+2,0,none⟩) 1 1)]) (fun _ h' n' w=>B=h'∧n+1+1=n'∧w=[]) (fun z=>z) 0 ⟨rfl,rfl,rfl,eT⟩ ⟨rfl,rfl,rfl⟩ (by show 0<LL;unfold LL;omega) ?_;rintro _ t _ _ _ ⟨rfl,rfl,rfl⟩;refine Zd ?_;rw [za rfl];refine Zn ?_;refine zM ?_;refine zF _ R5 (dE k (rR C i D) (n:=n+1+1) zo (g.ext i zo) J (s.ext i zo) F K h0) ?_;intro v N P W b;obtain ⟨o,rfl⟩:=b.g.shape;have q:=((AS.refl g).ext i zo).trans b;refine Zk ?_;exact retH [gS o _ _] R3 q
def intN (x:Int):List Nat:=(if x<0 then [45] else [])++decN x.natAbs
theorem zet (x:Int):(intN x).map Bd=intT x:=by
 unfold intN intT;rw [AP,←np];congr 1;split<;>rfl
theorem IW.few {b:Bool}{a:Option Addr}{c:Nat}{x:Int}(i:IW h n b a l c x)(hx:x.natAbs<2^m)(hm:m≤1920):∃L,Sl h n 1 (gS a l c) (u64s L)∧NW L∧gP L≤30∧wv L=x.natAbs:=by
 obtain ⟨_,L,f,d,e⟩:=i;refine ⟨L,f,d,d.len_le (k:=30) ?_,e⟩;rw [e];refine Af hx (Aa (sN zd hm) ?_);decide+kernel
theorem zlv {L:List Nat}{o:Nat}(hm:m≠0)(f:gP L=m)(h:((u8s T).drop o).take m=u64s L):False:=by
 obtain ⟨d,a,rfl⟩:∃d a,L=d::a:=by
  cases L with
  |nil=>exact eN f.symm hm
  |cons d a=>exact ⟨d,a,rfl⟩
 have b:gZ .u64 (d:Int)∈((u8s T).drop o).take m:=by rw [h];exact AR
 have c:=Bq (AB b);obtain ⟨q,_,e⟩:=AZ.1 c;cases e
theorem Sl.kept {u:Value}{L:List Nat}(s:Sl h n 1 v (u64s L))(k:Keep u n h h')(g:GroT h n u T)(d:n≤n'):Sl h' n' 1 v (u64s L):=by
 generalize hL:u64s L=cl at s;cases s with
 |nil ha=>exact .nil (uw ha d)
 | @at_ b off len cap x cs c2 hb hx hc hcap hl he=>
  by_cases h0:len=0
  ·subst h0;have:cl=[]:=by rw [←he];simp
   subst this;exact .nil (.inr ⟨_,_,_,rfl,zo⟩)
  refine .at_ zo ((k b hb fun o l c e=>?_).trans hx) hc hcap hl he;unfold GroT at g;generalize (gP T)=tl at g;generalize hT:u8s T=tc at g;cases g with
  |nil=>cases e
  |at_ hg hlo hb2 hr hl2 ho=>
   cases e;rw [hr] at hx;cases hx;injection hc with hc
   subst hc;have a:gP L=len*1:=by
    have:=congrArg gP he;rw [←hL,zL,sn,sa] at this;omega
   rw [←hT,←hL] at he;exact zlv zo a he
theorem nF (k:Nat)(H:GK.G h)(K:20≤n){a:Option Addr}(g:GroT h n (gS a (gP T) (gP T)) T)(hT:gP T<10000000){b:Bool}{x:Int}(i:IW h n b ax lx cx x)(hx:x.natAbs<2^m)(hm:m≤1920):
  CF (cal (k+8)) 102 [.agg #[jx b,gS ax lx cx],gS a (gP T) (gP T)] h n fun v h' n' w=>AS h n (gS a (gP T) (gP T)) h' n' w v (T++intN x):=by
 refine zw (fn:=Tryz.f102) R4 ?_;refine zN ?_;refine tK [jx b,gS ax lx cx] R5 ?_;intro Z y e;have V:=i.ext e zs;obtain ⟨L,M,O,J,o⟩:=V.few hx hm;have q:=(AS.refl g).ext e zs;refine Zs ?_;refine z7 (v:=jx b) R5 (zX rfl y R2) ?_;refine zN ?_;cases b
 ·have p:=i.ge;rw [za rfl];refine Zn ?_;refine z7 (v:=gS ax lx cx) R5 (zX rfl y R2) ?_;refine zF _ R5 (nI k (rR H e K) (n:=n+1) zo q.g zo M O J) ?_;intro v j n3 Y d;obtain ⟨A,rfl⟩:=d.g.shape;have B:=q.trans d;rw [o] at B;refine Zk ?_;rw [show intN x=decN x.natAbs by unfold intN;rw [eP zo];rfl];exact retH [gS A _ _] R3 (by rw [o];exact B)
 have p:=i.lt;rw [ze rfl];refine Ze ?_;refine wE [gZ .u8 45] (l:=1) (c:=1) R5 ?_;intro F W f;have P:F (3*n+2)=_:=(f _ zo).trans y;refine oi (m:=1) (new:=[45]) R9 zb rfl (yp W R2) eU rfl zo (q.ext f zs) ?_;intro v' j Y d u;obtain ⟨A,rfl⟩:=d.g.shape;have s:GroT F (n+1+1) (gS a (gP T) (gP T)) T:=(g.ext e zs).ext f zs;have R:j (3*n+2)=_:=(s.keepB u (zB n) zo).trans P;have I:GK.G j:=G_fr (rR H (e.trans f zs) K) fun b hb U=>s.keepB u U zo;have N:Sl j (n+1+1+1) 1 (gS ax lx cx) (u64s L):=(M.ext f zs).kept u s zs;refine Zk ?_;refine Zc ?_;refine z7 (v:=gS ax lx cx) R5 (zX rfl R R2) ?_;refine zF _ R5 (nI k I (n:=n+1+1+1) zo d.g (by rw [k0];simp;omega) N O J) ?_;intro v h4 n4 w4 C;obtain ⟨S,rfl⟩:=C.g.shape;have D:=d.trans C;rw [o] at D;refine Zk ?_;rw [show T++intN x=T++[45]++decN x.natAbs by unfold intN;rw [eS p,Ak]];exact retH [gS S _ _] R3 (by rw [o];exact D)
end
section
variable {h h0:HF}{n:Nat}{T:List Nat}
theorem GroT.text {a:Option Addr}(g:GroT h n (gS a (gP T) (gP T)) T):argS h 1 (gS a (gP T) (gP T)) (gP T) (u8s T):=uX (Gro.sl g)
theorem GroT.nil (h:HF)(n:Nat):GroT h n (gS none (gP ([]:List Nat)) (gP ([]:List Nat))) []:=Gro.nil
theorem zi5:∀(m V:Nat),V<2^m→gP (decD V)≤m:=by
 intro m;induction m with
 |zero=>(intro V h;have:V=0:=by simpa using h);subst this;simp [decD]
 |succ m ih=>
  intro V h;by_cases h0:V=0
  ·subst h0;simp [decD]
  rw [decD];simp only [h0,if_false,↓reduceDIte,↓reduceIte,List.length_cons,k0,nP,List.length_nil];have:=ih (V/10) (by rw [Ac] at h;omega);omega
theorem zif {x:Int}(h:x.natAbs<2^m):gP (intN x)≤m+2:=by
 have a:gP (decN x.natAbs)≤m+1:=by
  unfold decN;split
  ·simp
  have:=zi5 m _ h;simp only [decB,mu,List.length_reverse];omega
 unfold intN;rw [k0];split<;>simp<;>omega
theorem AS.w_nil {c:Nat}(a:AS h0 n0 (gS none l c) h n w v T):w=[]:=by
 cases w with
 |nil=>rfl
 |cons b w=>
  obtain ⟨o,l,c,e⟩:=a.hw b AR;cases e
theorem zcw (k:Nat)(f:GK.G h)(j:20≤n){b:Bool}{x:Int}(i:IW h n b ax lx cx x)(hx:x.natAbs<2^m)(hm:m≤1920):
  VF (cal (k+9)) 101 [.agg #[jx b,gS ax lx cx]] h n fun v=>v=jy ⟨⟨intT x⟩⟩:=by
 refine zO (fn:=Tryz.f101) R4 ?_;refine zN ?_;refine tK [jx b,gS ax lx cx] R5 ?_;intro e p d;have o:=i.ext d zs;refine Zk ?_;refine z7 (v:=.agg #[jx b,gS ax lx cx]) R5 (yw R2 p rfl zb rfl) ?_;refine zF _ R5 (nF k (rR f d j) (n:=n+1) zo (GroT.nil e (n+1)) (by show 0<10000000;omega) o hx hm) ?_;intro v u y A a;obtain ⟨s,rfl⟩:=a.g.shape;have c:=a.w_nil;subst c;refine pY R5 (rg (B:=[]++intN x) R3 a.g.text) ?_;refine Zk ?_;refine retF _ rfl (zi rfl) R2 ?_;show jy _=_;rw [Au,zet]
theorem js {w:Nat}(a:w≤9223372036854775808)(h0:0<w):Ai .i64 ((18446744073709551616-w:Nat):Int)= -(w:Int):=by
 simp only [Ai,IntKind.signed,BJ];simp;omega
theorem zig (k:Nat){b:Bool}{x:Int}(i:IW h n b ax lx cx x):
  VF (cal (k+1)) 100 [.agg #[jx b,gS ax lx cx]] h n fun v=>∃y ok,v=.tuple #[gZ .i64 y,jx ok]∧(ok=true→y=x∧ -9223372036854775808≤x∧x<9223372036854775808):=by
 refine zO (fn:=Tryz.f100) R4 ?_;obtain ⟨u,L,B,G,D⟩:=i;have A:=B.lenW;subst A;refine zN ?_;refine tK [jx b,gS ax (gP L) cx] R5 ?_;intro p g H;have C:=B.ext H zs;refine Zc ?_;refine Ze ?_;refine z7 (v:=gS ax (gP L) cx) R5 (zX rfl g R2) ?_;by_cases h0:L=[]
 ·subst h0;have o:x=0:=by
   have:x.natAbs=0:=D.symm.trans rfl;omega
  refine Zq ?_;exact retF [gZ .i64 0,jx true] rfl (yX rfl (yX rfl qP)) R2 ⟨_,_,rfl,fun _=>⟨o.symm,zo,zo⟩⟩
 have I:gP L≠0:=fun e=>h0 (vT.1 e);obtain ⟨w,c,rfl⟩:∃w c,L=w::c:=by
  cases L with
  |nil=>exact eN rfl h0
  |cons w c=>exact ⟨w,c,rfl⟩
 have s:w<18446744073709551616:=G.1 w gN;refine Zz ?_;refine z7 (v:=gS ax (gP (w::c)) cx) R5 (zX rfl g R2) ?_;refine yE (f:=fun d:Nat=>gZ .u64 (d:Int)) (j:=0) (dv:=w) R7 C R2 rfl (fun _=>rfl) R4 fun _=>?_;refine Zs ?_;refine z7 (v:=gS ax (gP (w::c)) cx) R5 (zX rfl g R2) ?_;by_cases p:c=[]
 ·subst p;rw [pP] at D;have F:w≠0:=G.last (l:=[]);refine zM ?_;refine zsd R6 (by show ¬(((1:Nat):Int)>1);omega) ?_;refine Zk ?_;rw [za rfl];refine Ze ?_;refine z7 (v:=jx b) R5 (zX rfl g R2) ?_;cases b
  ·have o:0≤x:=FB.1 (of_decide_eq_false u.symm);refine Zz ?_;refine z7 (v:=jx false) R5 (zX rfl g R2) ?_;by_cases hlt:w≤9223372036854775807
   ·refine ZA ?_;refine oa R6 zo ?_;refine Zc ?_;refine zN ?_;rw [ze rfl];refine Ze ?_;refine vj (a:=(w:Int)) R7 zo ?_;refine Zc ?_;refine zN ?_;exact retF [gZ .i64 (w:Int),jx true] rfl (yX rfl (yX rfl qP)) R2 ⟨_,_,rfl,fun _=>⟨zo,zo,zo⟩⟩
   refine ZA ?_;refine mD R6 zo ?_;refine Zc ?_;refine zN ?_;rw [za rfl];refine Zn ?_;refine zN ?_;exact retF [gZ .i64 0,jx false] rfl (yX rfl (yX rfl qP)) R2 ⟨_,_,rfl,fun e=>by cases e⟩
  have o:x<0:=of_decide_eq_true u.symm;by_cases hlt:w≤9223372036854775808
  ·refine Zc ?_;refine oa R6 zo ?_;refine Zc ?_;refine zN ?_;rw [ze rfl];refine Ze ?_;refine zS (v:=gZ .u64 ((18446744073709551616-w:Nat):Int)) R4 (zeb s F) ?_;refine wm (ik:=.i64) (a:= -(w:Int)) R6 (by show some (gZ .i64 (Ai .i64 _))=_;rw [js hlt zo]) ?_;refine Zc ?_;refine zN ?_;exact retF [gZ .i64 (-(w:Int)),jx true] rfl (yX rfl (yX rfl qP)) R2 ⟨_,_,rfl,fun _=>⟨zo,zo,zo⟩⟩
  refine Zc ?_;refine mD R6 zo ?_;refine Zc ?_;refine zN ?_;rw [za rfl];refine Ze ?_;refine z7 (v:=jx true) R5 (zX rfl g R2) ?_;refine Zl ?_;refine Zc ?_;refine zN ?_;exact retF [gZ .i64 0,jx false] rfl (yX rfl (yX rfl qP)) R2 ⟨_,_,rfl,fun e=>by cases e⟩
 have J:2≤gP (w::c):=by
  cases c with
  |nil=>exact eN rfl p
  |cons _ _=>simp
 refine zM ?_;refine zsc R6 zo ?_;refine Zk ?_;rw [ze rfl];refine Zn ?_;refine zN ?_;exact retF [gZ .i64 0,jx false] rfl (yX rfl (yX rfl qP)) R2 ⟨_,_,rfl,fun e=>by cases e⟩
theorem tj (h:denZ q=0):ratT q=intT q.num:=by
 unfold ratT intT;rw [eS (yr.1 h),Am]
theorem jS (h:¬denZ q=0):ratT q=(intN q.num++[47]++intN (denZ q)).map Bd:=by
 rw [AP,AP,zet,zet,wq h];unfold ratT intT;rw [eP (mt yr.2 h),eP (show ¬((q.den:Nat):Int)<0 by omega)];simp only [Ak,qe];rfl
theorem vx (k:Nat)(hG:GK.G h)(hn:20≤n){b d:Bool}{a e:Option Addr}{c f g:Nat}(i:IW h n b a l c q.num)(j:IW h n d e f g (denZ q))(J:Sz m q)(hm:m≤1920):
  VF (cal (k+10)) 47 [.agg #[jx b,gS a l c,jx d,gS e f g]] h n fun v=>v=jy ⟨⟨ratT q⟩⟩:=by
 refine zO (fn:=Tryz.f47) R4 ?_;refine zN ?_;refine tK [jx b,gS a l c,jx d,gS e f g] R5 ?_;intro O D K;have R:=i.ext K zs;have j1:=j.ext K zs;have u:=rR hG K hn;refine Zs ?_;refine z7 (v:=.agg #[jx d,gS e f g]) R5 (yw R2 D rfl zb rfl) ?_;refine yi _ R5 (bj (k+8) j1) ?_;rintro _ ⟨z,rfl,s⟩;refine zN ?_;cases z
 ·have s:¬denZ q=0:=fun e=>by cases s.2 e
  rw [za rfl];refine Ze ?_;refine z7 (v:=.agg #[jx b,gS a l c]) R5 (yw R2 D rfl zb rfl) ?_;refine zF _ R5 (nF (k+1) u (n:=n+1) zo (GroT.nil O (n+1)) (by show 0<10000000;omega) R J.1 hm) ?_;intro v h2 C w2 A;obtain ⟨a',rfl⟩:=A.g.shape;have a0:=A.w_nil;subst a0;have U:Ext (n+1) O h2:=fun b p=>A.keep b p fun o l c e=>by cases e
  have ac:=A.hn;refine wE [gZ .u8 47] (l:=1) (c:=1) R5 ?_;intro I p3 L;have H:GroT I (C+1) _ _:=A.g.ext L zs;have ab:gP (intN q.num)≤1922:=Aa (zif J.1) zo;have hA:AS h (ctx (k+9) n 0).n0 (gS none 0 0) I (C+1) [] _ ([]++intN q.num):=⟨by show n≤C+1;omega,fun b p _=>(L b (by have p:b<3*n:=p;omega)).trans ((U b (by have p:b<3*n:=p;omega)).trans (K b p)),fun b p=>eN p og,H,by rcases A.or with h|h;exact .inl h;exact .inr (h.mono (Al n))⟩;refine oi (m:=1) (new:=[47]) R9 zb rfl (yp p3 R2) eU rfl (by show (gP ([]++intN q.num)+1)*1≤_;rw [Au];omega) hA ?_;intro v' P w4 F S;obtain ⟨a5,rfl⟩:=F.g.shape;have a1:=F.w_nil;subst a1;have p4:P (3*n+2)=_:=(H.keepB S (zB n) zo).trans ((L _ zo).trans ((U _ zo).trans D));have M:Ext (n+1) O I:=U.trans L zo;have V:GK.G I:=rR u M zo;have W:GK.G P:=G_fr V fun b p hg=>H.keepB S hg zo;obtain ⟨ej,Lj,Y,aa,Z⟩:=j1.ext M (show n+1≤C+1 by omega);have j4:IW P (C+1+1) d e f g (denZ q):=⟨ej,Lj,Y.kept S H zs,aa,Z⟩;refine Zs ?_;refine z7 (v:=.agg #[jx d,gS e f g]) R5 (yw R2 p4 rfl zb rfl) ?_;refine zM ?_;refine zF _ R5 (nF (k+1) W (n:=C+1+1) zo F.g (by rw [k0,Au];simp;omega) j4 (by rw [wq s,qe];exact J.2) hm) ?_;intro v h5 n5 w5 N;obtain ⟨a7,rfl⟩:=N.g.shape;have a3:addW (ctx (k+9) n 0).n0 w5 []=[]:=(F.trans N).w_nil;refine pY R5 (rg (B:=[]++intN q.num++[47]++intN (denZ q)) R3 N.g.text) ?_;refine Zk ?_;refine retF _ rfl (zi rfl) ⟨rfl,a3⟩ ?_;show jy _=_;rw [Au,jS s]
 have s:denZ q=0:=s.1 rfl;rw [ze rfl];refine Ze ?_;refine z7 (v:=.agg #[jx b,gS a l c]) R5 (yw R2 D rfl zb rfl) ?_;refine yi _ R5 (zig (k+8) R) ?_;rintro _ ⟨y,ok,rfl,hy⟩;refine Zc ?_;refine Zc ?_;refine Zs ?_;refine zN ?_;cases ok
 ·rw [za rfl];refine Ze ?_;refine z7 (v:=.agg #[jx b,gS a l c]) R5 (yw R2 D rfl zb rfl) ?_;refine yi _ R5 (zcw k u (n:=n+1) zo R J.1 hm) ?_;rintro _ rfl;refine Zk ?_;exact retF _ rfl (zi rfl) R2 (by rw [tj s];rfl)
 obtain ⟨rfl,a8,a9⟩:=hy rfl;rw [ze rfl];refine Ze ?_;refine yi _ R5 (oT (k+4) u (n:=n+1) zo ⟨a8,a9⟩) ?_;rintro _ rfl;refine Zk ?_;exact retF _ rfl (zi rfl) R2 (by rw [tj s];rfl)
end
section
variable {len off:Nat}{ty:TypeId}{x:Operand}
section
variable {h:HF}{n:Nat}{d:Tmp}
theorem sZ {P:List Value→D→HF→Nat→Prop}{a:Operand}{zs:List D}{q:D}(c:List Value)(u:OR sz P h n b zs)(p:KP sz P)(hj:j<zs.length)(f:off=j*sz)(g:P c q h n)(k:∀h',OR sz P h' n b (zs.set j q)→Sto b h h'→EO X ops r ⟨t,h',n,addW n0 [b] w⟩ Q)(H:zh ops t o=true:=by exact rfl)(hd:o.dst=none:=by exact rfl)(ho:o.op=.store ty a x:=by exact rfl)(hi:X.E.inf ty=some (sz,bt,z):=by exact rfl)(ha:evF t a=.pointer (some ⟨b,off,none⟩):=by exact rfl)(hx:zn (evF t x)=c:=by exact rfl)(hX:X.n0=n0:=by exact rfl):EO X ops (o::r) ⟨t,h,n,w⟩ Q:=by
 have v:=u;obtain ⟨L,C,e,y,M,I⟩:=u;have G:=I.len;obtain ⟨A,K,B⟩:=p.c g;have J:j*sz+sz≤zs.length*sz:=by
  have:=Nat.mul_le_mul_right sz (show j+1≤zs.length from hj);rw [Nat.add_mul,Nat.one_mul] at this;exact this
 subst f;rw [rS H (by rw [hd];rfl) (by rw [ho];rfl) (by rw [ho];exact xn hi ha (by rw [hx];exact A) (by rw [hx];exact B) y zo),hd,hx,hX];have s:=v.set (h':=upd h b (some (.row (zu C (j*sz) c) e))) p y hj g (zg _ _ _) (fun c F=>zm F);exact k _ s.1 s.2
theorem sZn {P:List Value→D→HF→Nat→Prop}{a:Operand}{zs:List D}{q:D}(c:List Value)(y:OR sz P h n b zs)(u:KP sz P)(hj:j<zs.length)(g:off=j*sz)(s:P c q h n)(f:3*n0≤b)(k:∀e,OR sz P e n b (zs.set j q)→Sto b h e→EO X ops r ⟨t,e,n,w⟩ Q)(p:zh ops t o=true:=by exact rfl)(hd:o.dst=none:=by exact rfl)(ho:o.op=.store ty a x:=by exact rfl)(hi:X.E.inf ty=some (sz,bt,z):=by exact rfl)(ha:evF t a=.pointer (some ⟨b,off,none⟩):=by exact rfl)(hx:zn (evF t x)=c:=by exact rfl)(hX:X.n0=n0:=by exact rfl):EO X ops (o::r) ⟨t,h,n,w⟩ Q:=
 sZ c y u hj g s (fun e v A=>by rw [wD f];exact k e v A) p hd ho hi ha hx hX
end
section
variable {h:HF}{n:Nat}{d:Tmp}
end
section
variable {h:HF}{n:Nat}{d:Tmp}
end
def strP (c:List Value)(s:List UInt8)(_:HF)(_:Nat):Prop:=c=[jy ⟨⟨s⟩⟩]
theorem strP.kp:KP 1 strP:=⟨fun e _=>e,fun e=>by cases e;exact ⟨rfl,rfl,rfl⟩⟩
theorem Rec.strsE {C:List Value}{h:HF}{n:Nat}(r:Rec 1 (fun c s=>strP c s h n) C ss):C=strs ss:=by
 induction r with
 |nil=>rfl
 |cons h1 h2 h3 ih=>rw [ih,h2];rfl
abbrev OT (h:HF)(n b:Nat)(ss:List (List UInt8)):Prop:=OR 1 strP h n b ss
theorem OT.sl {h:HF}{n:Nat}(o:OT h n b ss)(c:len=gP ss)(a:len≤cap):Sl h n 1 (gS (some ⟨b,0,none⟩) len cap) (strs ss):=by
 obtain ⟨C,s,r⟩:=OR.sl o c a;exact r.strsE▸s
theorem zcx (k:Nat){h:HF}{n:Nat}(g:GG h n){b d:Bool}{a e:Option Addr}{c f p:Nat}(i:IW h n b a l c q.num)(j:IW h n d e f p (denZ q)){m:Nat}(s:Sz m q)(hm:m≤1920):CX (cal (k+10)) 47 [.agg #[jx b,gS a l c,jx d,gS e f p]] h n fun v _ _=>v=jy ⟨⟨ratT q⟩⟩:=(vx k g.1 g.2 i j s hm).cx
end
section
variable {p:LPD}{n:Nat}{h:HF}{ds:List SideD}
theorem zoa {lo hi:List UInt8}(h:∀i,i<j→∀lo hi,p.lower[i]?=some lo→p.upper[i]?=some hi→pairOk lo hi)(g:p.lower[j]?=some lo)(l:p.upper[j]?=some hi)(m:pairOk lo hi):∀i,i<j+1→∀lo hi,p.lower[i]?=some lo→p.upper[i]?=some hi→pairOk lo hi:=by
 intro i o f d b c;by_cases e:i=j
 ·subst e;rw [g] at b;rw [l] at c;injection b with b
  injection c with c
  subst b c;exact m
 exact h i zo f d b c
theorem ot {l:List α}{P:α→Prop}{r:α}(h:∀r∈l.take i,P r)(d:l[i]?=some r)(e:P r):∀r∈l.take (i+1),P r:=by
 intro f c;rw [xa d] at c;rcases AY.1 c with b|b
 ·exact h f b
 rw [qq.1 b];exact e
theorem GSL.lo {lo:Nat}(g:GSL lo h n v ds)(l:lo'≤lo):GSL lo' h n v ds:=by
 obtain ⟨C,b,e,f⟩:=g.ex;refine ⟨C,?_,e.mono fun c d s=>s.lo l,f⟩;generalize (gP ds)=m at b ⊢;cases b with
 |nil=>exact .nil
 |at_ hg hlo hb hr hl2 ho=>exact .at_ hg zo hb hr hl2 ho
theorem zpl (k:Nat)(g:GG h n){lo:Nat}(io:Sl h n 1 (gS ao lo co) (strs p.obj))(ir:RWS h n (gS ar lr cr) p.rows)(iw:Sl h n 1 (gS aw lw cw) (strs p.lower))(iu:Sl h n 1 (gS au lu cu) (strs p.upper))(hp:LPB a p)(ha:a+a≤2000):CX (cal (k+12)) 35 [.agg #[gS ao lo co,gS ar lr cr,gS aw lw cw,gS au lu cu]] h n fun v O S=>∃aO lO kO aR lR kR aC lC kC ok,v=.tuple #[.agg #[gS aO lO kO,gS aR lR kR,gS aC lC kC],jx ok]∧(ok=true↔VLP p)∧(ok=true→QSL n O S (gS aO lO kO) (p.obj.map zj)∧GSL n O S (gS aR lR kR) (zU p)∧GSL n O S (gS aC lC kC) (zC p)):=by
 have gb:=z8 io;have gc:=ir.len;have ge:=z8 iw;have gd:=z8 iu;obtain ⟨d6,c1,c2,T,d5,fq,fr,fs⟩:=hp;refine zw (fn:=Tryz.f35) R4 ?_;refine zG ?_;refine sB [gS ao lo co,gS ar lr cr,gS aw lw cw,gS au lu cu] ?_;intro eq gw j8;refine sA ?_;intro er gx j9;refine zG ?_;by_cases q13:(lo:Int)<1
 ·refine zG ?_;refine sT #[gS none 0 0,gS none 0 0,gS none 0 0] ?_;refine sS [gS none 0 0,gS none 0 0,gS none 0 0] ?_;intro es gy gg;refine zq ?_;exact ⟨_,_,_,_,_,_,_,_,_,_,rfl,⟨fun e=>(by cases e),fun hv=>by have:=hv.n1;have:=hv.n2;have:=hv.ll;have:=hv.lu;have:=hv.lr;omega⟩,fun e=>(by cases e)⟩
 refine zG ?_;by_cases q15:(lo:Int)>64
 ·refine zG ?_;refine sT #[gS none 0 0,gS none 0 0,gS none 0 0] ?_;refine sS [gS none 0 0,gS none 0 0,gS none 0 0] ?_;intro et gz gh;refine zq ?_;exact ⟨_,_,_,_,_,_,_,_,_,_,rfl,⟨fun e=>(by cases e),fun hv=>by have:=hv.n1;have:=hv.n2;have:=hv.ll;have:=hv.lu;have:=hv.lr;omega⟩,fun e=>(by cases e)⟩
 refine zG ?_;by_cases q17:(lw:Int)=(lo:Int)
 ·refine zG ?_;by_cases q18:(lu:Int)=(lo:Int)
  ·refine zG ?_;by_cases q19:(lr:Int)>64
   ·refine zG ?_;refine sT #[gS none 0 0,gS none 0 0,gS none 0 0] ?_;refine sS [gS none 0 0,gS none 0 0,gS none 0 0] ?_;intro eu i0 gi;refine zq ?_;exact ⟨_,_,_,_,_,_,_,_,_,_,rfl,⟨fun e=>(by cases e),fun hv=>by have:=hv.n1;have:=hv.n2;have:=hv.ll;have:=hv.lu;have:=hv.lr;omega⟩,fun e=>(by cases e)⟩
   refine zG ?_;refine sC (rC _ (g.x zx) (io.x zx) (fun s hs=>(d6 s hs).1) d5) ?_;rintro _ ev o ⟨D,P,H,ef,rfl,ca,dw⟩ jn ja;rcases bvs ca with ⟨rfl,bl⟩|⟨rfl,bl⟩
   ·refine zG ?_;refine sT #[gS none 0 0,gS none 0 0,gS none 0 0] ?_;refine sS [gS none 0 0,gS none 0 0,gS none 0 0] ?_;intro ew i1 gk;refine zq ?_;exact ⟨_,_,_,_,_,_,_,_,_,_,rfl,⟨fun e=>(by cases e),fun hv=>eN hv.ob bl⟩,fun e=>(by cases e)⟩
   have U:=dw rfl;have eb:=U.1.len;rw [mu] at eb;refine zG ?_;refine sT #[gS D P H,gS none 0 0,gS none 0 0] ?_;refine sA ?_;intro ey i2 jb;refine sS [gS D P H,gS none 0 0,gS none 0 0] ?_;intro d3 dq gl;refine zG ?_;refine sF (α:=Nat×Option Addr×Nat×Nat) (fun z=>[(1,mo (some ⟨3*n+2,0,none⟩)),(2,mo (some ⟨3*(n+1)+2,0,none⟩)),(4,gZ .i64 (lo:Int)),(7,mo (some ⟨3*o+2,0,none⟩)),(58,gZ .i64 (lo:Int)),(59,gZ .i64 (z.1:Int))]) (fun z O S w'=>w'=[]∧o+1≤S∧ExtB (o+1) [3*o+2] d3 O∧O (3*o+2)=some (.row [gS D P H,gS none 0 0,gS z.2.1 z.2.2.1 z.2.2.2] 71)∧GSL (o+1) O S (gS z.2.1 z.2.2.1 z.2.2.2) ((zC p).take z.1)∧z.1≤gP p.obj∧∀i,i<z.1→∀lo hi,p.lower[i]?=some lo→p.upper[i]?=some hi→pairOk lo hi) (fun z=>gP p.obj-z.1) (0,none,0,0) ⟨rfl,eU,ExtB.refl _ _ _,dq,GSL.nil _ _ _,gH,(fun i hi=>eN hi (AQ _))⟩ ?_;rintro ⟨j,aC,lC,kC⟩ t a9 w _ ⟨rfl,jo,em,a4,u,hj,b4⟩;have a4:a9 (3*o+2)=some (.row [gS D P H,gS none 0 0,gS aC lC kC] 71):=a4;have u:GSL (o+1) a9 w (gS aC lC kC) ((zC p).take j):=u;have hj:j≤gP p.obj:=hj;have b4:∀i,i<j→∀lo hi,p.lower[i]?=some lo→p.upper[i]?=some hi→pairOk lo hi:=b4;refine zG ?_;by_cases q26:(j:Int)<(lo:Int)
   ·refine zG ?_;refine zl [0,1,0,7,15,0,32,0,224,480,1023,2047,4095,4095,0,24575,65535] rfl ?_;refine zH ?_;obtain ⟨cy,a7⟩:∃d,(p.lower)[j]?=some d:=⟨_,kF zo⟩;obtain ⟨g7,gm,d0,di,e1,e6⟩:=vM iw a7;refine dI d0 e1 ?_;refine dL e6 di 0 ?_;refine zH ?_;obtain ⟨cz,a8⟩:∃d,(p.upper)[j]?=some d:=⟨_,kF zo⟩;obtain ⟨g8,gn,d1,dj,e2,e7⟩:=vM iu a8;refine dI d1 e2 ?_;refine dL e7 dj 0 ?_;refine dC (jP _ (g.x zx) (c1 _ (mp a7)).1 (c2 _ (mp a8)).1 (c1 _ (mp a7)).2 (c2 _ (mp a8)).2 zo) ?_;rintro _ ez ap ⟨ac,ay,ax,b5,az,b0,b1,b2,b3,L,W,V,a3,Y,Z,a0,a1,a2,eg,rfl,cb,dx⟩ jp jc;rcases bvs cb with ⟨rfl,bm⟩|⟨rfl,bm⟩
    ·refine zH ?_;refine dB [gS none 0 0,jx false,jx false,gS none 0 0,jx false,gS none 0 0,jx false,jx false,gS none 0 0,jx false,gS none 0 0] ?_;intro f0 i3 jd;refine dS [gS none 0 0,jx ac,jx ay,gS ax b5 az,jx b0,gS b1 b2 b3,jx L,jx W,gS V a3 Y,jx Z,gS a0 a1 a2] ?_;intro f1 i4 go;refine zJ ?_;refine sT #[gS none 0 0,gS none 0 0,gS none 0 0] ?_;refine sS [gS none 0 0,gS none 0 0,gS none 0 0] ?_;intro f2 i5 c5;have ft:=(U.x zx).sto c5 zo;have fu:=(u.x zx).sto c5 zo;refine zq ?_;exact ⟨_,_,_,_,_,_,_,_,_,_,rfl,⟨fun e=>(by cases e),fun hv=>eN (hv.bd _ _ _ a7 a8) bm⟩,fun e=>(by cases e)⟩
    obtain ⟨e9,d7,df,bw,bs,bu⟩:=dx rfl;refine zH ?_;refine dB [gS none 0 0,jx false,jx false,gS none 0 0,jx false,gS none 0 0,jx false,jx false,gS none 0 0,jx false,gS none 0 0] ?_;intro f3 i6 je;refine dS [gS none 0 0,jx ac,jx ay,gS ax b5 az,jx b0,gS b1 b2 b3,jx L,jx W,gS V a3 Y,jx Z,gS a0 a1 a2] ?_;intro f4 i7 gp;refine zJ ?_;refine wE [gS none 0 0,jx ac,jx ay,gS ax b5 az,jx b0,gS b1 b2 b3,jx L,jx W,gS V a3 Y,jx Z,gS a0 a1 a2] (l:=1) (c:=1) R5 ?_;intro bg dr jf;have e4:uK (o+1) [gS none 0 0,jx ac,jx ay,gS ax b5 az,jx b0,gS b1 b2 b3,jx L,jx W,gS V a3 Y,jx Z,gS a0 a1 a2] (⟨[],cy,cz⟩) bg (ap+1+1):=⟨_,_,_,_,_,_,_,_,_,_,_,_,_,_,_,_,_,_,_,_,_,rfl,QSL.nil _ _ _,e9,(d7.t zt),(df.t zt),bw,(bs.t zt),(bu.t zt)⟩;obtain ⟨ek,C,cp,ci⟩:=((u.x (h':=bg) (n':=ap+1+1) zx)).ex;have cl:bg (3*(ap+1)+2)=_:=dr;refine cm (lo:=(o+1)) (m:=1) R8 ⟨tu rfl,tu rfl⟩ C (yp cl R2) eU (by rw [sn];omega) rfl rfl ⟨by show n≤_;omega,zo⟩ ?_;intro j6 ak be c8 ab;have cs:=GSL.app C cp ci e4 ab be;obtain ⟨bz,cf,_⟩:=be.shape;subst cf;replace c8:Exa (o+1) _ _:=⟨c8⟩;have i8:ak (3*n+2)=_:=(ab.blk C (zB _) zo).trans zp;have i9:ak (3*(n+1)+2)=_:=(ab.blk C (zB _) zo).trans zp;have ia:ak (3*o+2)=_:=(ab.blk C (zB _) zo).trans zp;have ib:ak (3*ap+2)=_:=(ab.blk C (zB _) zo).trans zp;have ic:ak (3*(ap+1)+2)=_:=(ab.blk C (zB _) zo).trans zp;refine zG ?_;refine sS (b:=3*o+2) (off:=2) [gS D P H,gS none 0 0,gS bz (gP ((zC p).take j)+1) (gP ((zC p).take j)+1)] ?_;intro f5 dt dm;have d8:=cs.sto dm zo;refine zG ?_;exact sK (j+1,bz,(gP ((zC p).take j)+1),(gP ((zC p).take j)+1)) ⟨rfl,zo,zy,dt,((xa (gj a7 a8)).symm▸d8),(by show j+1≤gP p.obj;omega),(zoa b4 a7 a8 bm)⟩
   refine zG ?_;have fp:j=gP p.obj:=zo;have bq:GSL (o+1) a9 w (gS aC lC kC) (zC p):=by have e:=u;rw [pq (by unfold zC;rw [List.length_zipWith];omega)] at e;exact e
   refine zG ?_;have ck:a9 (3*o+2)=_:=a4;refine sF (α:=Nat×Option Addr×Nat×Nat) (fun z=>[(2,mo (some ⟨3*(n+1)+2,0,none⟩)),(4,gZ .i64 (lo:Int)),(7,mo (some ⟨3*o+2,0,none⟩)),(87,gS ar lr cr),(88,gZ .i64 (lr:Int)),(89,gZ .i64 (z.1:Int))]) (fun z O S w'=>w'=[]∧w≤S∧ExtB w [3*o+2] a9 O∧O (3*o+2)=some (.row [gS D P H,gS z.2.1 z.2.2.1 z.2.2.2,gS aC lC kC] 71)∧GSL w O S (gS z.2.1 z.2.2.1 z.2.2.2) ((zU p).take z.1)∧z.1≤gP p.rows∧∀r∈p.rows.take z.1,pairOk r.lo r.hi∧(∀s∈r.A,vF s)∧gP r.A=gP p.obj) (fun z=>gP p.rows-z.1) (0,none,0,0) ⟨rfl,eU,ExtB.refl _ _ _,a4,GSL.nil _ _ _,gH,(fun r hr=>eN hr gN)⟩ ?_;rintro ⟨i,aR,lR,kR⟩ t al aq _ ⟨rfl,jq,en,b9,f,hi,am⟩;have b9:al (3*o+2)=some (.row [gS D P H,gS aR lR kR,gS aC lC kC] 71):=b9;have f:GSL w al aq (gS aR lR kR) ((zU p).take i):=f;have hi:i≤gP p.rows:=hi;have am:∀r∈p.rows.take i,pairOk r.lo r.hi∧(∀s∈r.A,vF s)∧gP r.A=gP p.obj:=am;refine zG ?_;by_cases q47:(i:Int)<(lr:Int)
   ·refine zG ?_;obtain ⟨bc,q⟩:∃d,(p.rows)[i]?=some d:=⟨_,kF zo⟩;obtain ⟨g9,gq,cv,dh,cx,d2,dk,e3,e8,bj⟩:=RWS.at ir q;have ee:=z8 bj;refine sI d2 e3 ?_;refine sL e8 dk 0 ?_;refine sA ?_;intro f6 id jg;refine sS [gS cv dh cx,jy ⟨⟨bc.lo⟩⟩,jy ⟨⟨bc.hi⟩⟩] ?_;intro f7 ie gr;refine zG ?_;refine sC (jP _ (g.x zx) (T _ (mp q)).1.1 (T _ (mp q)).2.1.1 (T _ (mp q)).1.2 (T _ (mp q)).2.1.2 zo) ?_;rintro _ f8 c4 ⟨a5,ae,ad,an,af,ag,ah,ai,aj,y,G,F,R,I,J,K,M,N,eh,rfl,cc,dy⟩ jr jh;rcases bvs cc with ⟨rfl,b7⟩|⟨rfl,b7⟩
    ·refine Zi ?_;intro f9 ig ji;refine sS [gS none 0 0,jx a5,jx ae,gS ad an af,jx ag,gS ah ai aj,jx y,jx G,gS F R I,jx J,gS K M N] ?_;intro fa ii gs;refine zG ?_;refine sC (rC _ (g.x zx) (bj.x zx) (fun s hs=>((T _ (mp q)).2.2.2 s hs).1) (T _ (mp q)).2.2.1) ?_;rintro _ fb gf ⟨eo,ga,ep,ei,rfl,cd,dz⟩ js jj;rcases bvs cd with ⟨rfl,dl⟩|⟨rfl,dl⟩
     ·refine zG ?_;refine sT #[gS none 0 0,gS none 0 0,gS none 0 0] ?_;refine sS [gS none 0 0,gS none 0 0,gS none 0 0] ?_;intro fc ij c6;have fv:=(U.x zx).sto c6 zo;have fw:=(f.x zx).sto c6 zo;refine zq ?_;exact ⟨_,_,_,_,_,_,_,_,_,_,rfl,⟨fun e=>(by cases e),fun hv=>eN (hv.rw _ (mp q)).1 b7⟩,fun e=>(by cases e)⟩
     have c3:=dz rfl;have ec:=c3.1.len;rw [mu] at ec;refine zG ?_;refine sT #[gS none 0 0,gS none 0 0,gS none 0 0] ?_;refine sS [gS none 0 0,gS none 0 0,gS none 0 0] ?_;intro fd ik bo;have fx:=(U.x zx).sto bo zo;have fy:=(f.x zx).sto bo zo;have fz:=c3.sto bo zo;refine zq ?_;exact ⟨_,_,_,_,_,_,_,_,_,_,rfl,⟨fun e=>(by cases e),fun hv=>eN (hv.rw _ (mp q)).1 b7⟩,fun e=>(by cases e)⟩
    obtain ⟨ea,d9,dg,bx,bt,bv⟩:=dy rfl;refine Zi ?_;intro fe il jk;refine sS [gS none 0 0,jx a5,jx ae,gS ad an af,jx ag,gS ah ai aj,jx y,jx G,gS F R I,jx J,gS K M N] ?_;intro ff im gt;refine zG ?_;refine sC (rC _ (g.x zx) (bj.x zx) (fun s hs=>((T _ (mp q)).2.2.2 s hs).1) (T _ (mp q)).2.2.1) ?_;rintro _ fg b8 ⟨ba,b6,bb,ej,rfl,ce,e0⟩ jt jl;rcases bvs ce with ⟨rfl,bn⟩|⟨rfl,bn⟩
    ·refine zG ?_;refine sT #[gS none 0 0,gS none 0 0,gS none 0 0] ?_;refine sS [gS none 0 0,gS none 0 0,gS none 0 0] ?_;intro fh ip c7;have g0:=(U.x zx).sto c7 zo;have g1:=(f.x zx).sto c7 zo;refine zq ?_;exact ⟨_,_,_,_,_,_,_,_,_,_,rfl,⟨fun e=>(by cases e),fun hv=>eN (hv.rw _ (mp q)).2.1 bn⟩,fun e=>(by cases e)⟩
    have bk:=e0 rfl;have ed:=bk.1.len;rw [mu] at ed;refine zG ?_;by_cases q68:(b6:Int)=(lo:Int)
    ·refine zG ?_;refine sS [gS ba b6 bb,jx a5,jx ae,gS ad an af,jx ag,gS ah ai aj,jx y,jx G,gS F R I,jx J,gS K M N] ?_;intro fi iq dn;have da:=bk.sto dn zo;refine zG ?_;refine wE [gS ba b6 bb,jx a5,jx ae,gS ad an af,jx ag,gS ah ai aj,jx y,jx G,gS F R I,jx J,gS K M N] (l:=1) (c:=1) R5 ?_;intro bh du jm;have e5:uK (w) [gS ba b6 bb,jx a5,jx ae,gS ad an af,jx ag,gS ah ai aj,jx y,jx G,gS F R I,jx J,gS K M N] (rowS bc) bh (b8+1):=⟨_,_,_,_,_,_,_,_,_,_,_,_,_,_,_,_,_,_,_,_,_,rfl,((da.x zx)).lo (show w≤c4+1 by omega),ea,(d9.t zt),(dg.t zt),bx,(bt.t zt),(bv.t zt)⟩;obtain ⟨el,B,cq,cj⟩:=((f.x (h':=bh) (n':=b8+1) zx)).ex;have cn:bh (3*b8+2)=_:=du;refine cm (lo:=(w)) (m:=1) R8 ⟨tu rfl,tu rfl⟩ B (yp cn R2) eU (by rw [sn];omega) rfl rfl ⟨by show n≤_;omega,zo⟩ ?_;intro j7 aa bf c9 a6;have ct:=GSL.app B cq cj e5 a6 bf;obtain ⟨c0,cg,_⟩:=bf.shape;subst cg;replace c9:Exa w _ _:=⟨c9⟩;have it:aa (3*n+2)=_:=(a6.blk B (zB _) zo).trans zp;have iv:aa (3*(n+1)+2)=_:=(a6.blk B (zB _) zo).trans zp;have ix:aa (3*o+2)=_:=(a6.blk B (zB _) zo).trans zp;have iy:aa (3*aq+2)=_:=(a6.blk B (zB _) zo).trans zp;have iz:aa (3*c4+2)=_:=(a6.blk B (zB _) zo).trans zp;have j0:aa (3*b8+2)=_:=(a6.blk B (zB _) zo).trans zp;refine zG ?_;refine sS (b:=3*o+2) (off:=1) [gS D P H,gS c0 (gP ((zU p).take i)+1) (gP ((zU p).take i)+1),gS aC lC kC] ?_;intro fj dv dp;have db:=ct.sto dp zo;refine zG ?_;exact sK (i+1,c0,(gP ((zU p).take i)+1),(gP ((zU p).take i)+1)) ⟨rfl,zo,zy,dv,((xa (zdq q)).symm▸db),(by show i+1≤gP p.rows;omega),(ot am q ⟨b7,bn,zo⟩)⟩
    refine zG ?_;refine sT #[gS none 0 0,gS none 0 0,gS none 0 0] ?_;refine sS [gS none 0 0,gS none 0 0,gS none 0 0] ?_;intro fk j1 bp;have g2:=(U.x zx).sto bp zo;have g3:=(f.x zx).sto bp zo;have g4:=bk.sto bp zo;refine zq ?_;exact ⟨_,_,_,_,_,_,_,_,_,_,rfl,⟨fun e=>(by cases e),fun hv=>eN (hv.rw _ (mp q)).2.2 zo⟩,fun e=>(by cases e)⟩
   refine zG ?_;have d4:i=gP p.rows:=zo;have br:GSL w al aq (gS aR lR kR) (zU p):=by have e:=f;rw [pq (by unfold zU;rw [mu];omega)] at e;exact e
   have bi:=bq.extB (n':=aq) (show ExtB w [3*o+2] a9 al from zy) zo (by intro b hb;simp only [Ad,og,or_false] at hb;subst hb;exact ⟨zo,_,_,ck,rfl⟩);have ch:=(U.x (h':=al) (n':=aq) zx);refine zG ?_;refine sS [gS D P H,gS aR lR kR,gS aC lC kC] ?_;intro fl j3 av;have dc:=br.sto av zo;have dd:=bi.sto av zo;have de:=ch.sto av zo;have g5:=(U.x zx).sto av zo;have g6:=f.sto av zo;refine zq ?_;exact ⟨_,_,_,_,_,_,_,_,_,_,rfl,⟨fun _=>⟨zo,zo,zo,zo,zo,bl,fun j2 lo hi h1 h2=>b4 j2 (by have:=(nN.1 h1).1;omega) lo hi h1 h2,by rw [d4,xd] at am;exact am⟩,fun _=>rfl⟩,fun _=>⟨de.lo zo,dc.lo zo,dd.lo zo⟩⟩
  refine zG ?_;refine sT #[gS none 0 0,gS none 0 0,gS none 0 0] ?_;refine sS [gS none 0 0,gS none 0 0,gS none 0 0] ?_;intro fm j4 gu;refine zq ?_;exact ⟨_,_,_,_,_,_,_,_,_,_,rfl,⟨fun e=>(by cases e),fun hv=>by have:=hv.n1;have:=hv.n2;have:=hv.ll;have:=hv.lu;have:=hv.lr;omega⟩,fun e=>(by cases e)⟩
 refine zG ?_;refine sT #[gS none 0 0,gS none 0 0,gS none 0 0] ?_;refine sS [gS none 0 0,gS none 0 0,gS none 0 0] ?_;intro fo j5 gv;refine zq ?_;exact ⟨_,_,_,_,_,_,_,_,_,_,rfl,⟨fun e=>(by cases e),fun hv=>by have:=hv.n1;have:=hv.n2;have:=hv.ll;have:=hv.lu;have:=hv.lr;omega⟩,fun e=>(by cases e)⟩
end
section
variable {h:HF}{n:Nat}
theorem pG {s t x y:Rat}(h:t=s+x*y)(h0:x=0∨y=0):s=t:=by
 rw [h];rcases h0 with h0|h0
 ·rw [h0,Rat.zero_mul,DW]
 rw [h0,Rat.mul_zero,DW]
theorem ziz (k:Nat)(g:GG h n)(ix:QS h n (gS ax lx cx) xs)(iy:QS h n (gS ay ly cy) ys)(O:∀q∈xs,Sz a q)(P:∀q∈ys,Sz b q)(hl:gP xs≤gP ys){c:Nat}(hc:∀j,j≤gP xs→Sz c (dotR (xs.take j) (ys.take j)))(hb:c+a+b+1≤2496)(hn:gP xs<1000000):CX (cal (k+11)) 46 [gS ax lx cx,gS ay ly cy] h n (QV (dotR xs (ys.take (gP xs)))):=by
 have bi:=ix.len;have bj:=iy.len;refine zw (fn:=Tryz.f46) R4 ?_;refine Zi ?_;intro b5 bt c1;refine Zi ?_;intro a7 ae c2;refine zG ?_;refine sF (α:=Nat×Bool×Option Addr×Nat×Nat×Bool×Option Addr×Nat×Nat) (fun z=>[(1,gS ay ly cy),(4,mo (some ⟨3*n+2,0,none⟩)),(5,mo (some ⟨3*(n+1)+2,0,none⟩)),(8,gS ax lx cx),(9,gZ .i64 (lx:Int)),(10,gZ .i64 (z.1:Int))]) (fun z F n' w'=>w'=[]∧n+1+1≤n'∧ExtB (n+1+1) [3*(n+1)+2] a7 F∧F (3*(n+1)+2)=some (.row [jx z.2.1,gS z.2.2.1 z.2.2.2.1 z.2.2.2.2.1,jx z.2.2.2.2.2.1,gS z.2.2.2.2.2.2.1 z.2.2.2.2.2.2.2.1 z.2.2.2.2.2.2.2.2] 92)∧IW F n' z.2.1 z.2.2.1 z.2.2.2.1 z.2.2.2.2.1 ((dotR (xs.take z.1) (ys.take z.1)).num)∧IW F n' z.2.2.2.2.2.1 z.2.2.2.2.2.2.1 z.2.2.2.2.2.2.2.1 z.2.2.2.2.2.2.2.2 (denZ (dotR (xs.take z.1) (ys.take z.1)))∧z.1≤gP xs) (fun z=>gP xs-z.1) (0,false,none,0,0,false,none,0,0) ⟨rfl,eU,ExtB.refl _ _ _,ae,(IW.zero _ _).as (by rw [By,kV];rfl),(IW.zero _ _).as (by rw [By,kV];rfl),gH⟩ ?_;rintro ⟨j,p,o,v,u,A,B,C,D⟩ t s Y _ ⟨rfl,c9,am,m,e,f,hj⟩;have m:s (3*(n+1)+2)=some (.row [jx p,gS o v u,jx A,gS B C D] 92):=m;have e:IW s Y p o v u ((dotR (xs.take j) (ys.take j)).num):=e;have f:IW s Y A B C D (denZ (dotR (xs.take j) (ys.take j))):=f;have hj:j≤gP xs:=hj;refine zG ?_;by_cases q14:(j:Int)<(lx:Int)
 ·refine zG ?_;obtain ⟨az,i⟩:∃d,(xs)[j]?=some d:=⟨_,kF zo⟩;obtain ⟨be,bo,a4,a3,ac,a5,ai,aj,ak,al,a6,ad,ag,ah,R,T⟩:=QS.at ix i;refine sI a6 ag ?_;refine sL ah ad 0 ?_;refine sA ?_;intro b6 bu c3;refine zG ?_;refine sS [jx a4,gS a3 ac a5,jx ai,gS aj ak al] ?_;intro b7 bv bp;refine zG ?_;refine sC (kD _ (R.x zx) (T.x zx)) ?_;rintro _ b8 bk ⟨ap,rfl,a1⟩ ca c4;rcases bvs a1 with ⟨rfl,w⟩|⟨rfl,w⟩
  ·refine zG ?_;obtain ⟨b0,l⟩:∃d,(ys)[j]?=some d:=⟨_,kF zo⟩;obtain ⟨bf,bq,aq,an,bg,av,bx,bz,c0,c5,K,W,Z,a0,S,U⟩:=QS.at iy l;refine sI K Z ?_;refine sL a0 W 0 ?_;refine sC (kD _ (S.x zx) (U.x zx)) ?_;rintro _ b9 bl ⟨ar,rfl,a2⟩ cb c6;rcases bvs a2 with ⟨rfl,y⟩|⟨rfl,y⟩
   ·refine zG ?_;refine zl [0,0,0,0,12,28,62,127,255] rfl ?_;refine zH ?_;refine dI K Z ?_;refine dL a0 W 0 ?_;refine dC (mulQ _ (g.x zx) (R.x zx) (T.x zx) (S.x zx) (U.x zx) (O _ (mp i)) (P _ (mp l)) zo) ?_;rintro _ ba bm ⟨au,ao,bh,aw,b1,b2,b3,b4,rfl,a8,aa⟩ cc c7;refine dC (addQ _ (g.x zx) (e.t zt) (f.t zt) a8 aa (hc _ hj) ((O _ (mp i)).mul (P _ (mp l))) zo) ?_;rintro _ bb bn ⟨H,G,V,I,J,L,M,N,rfl,a9,ab⟩ cd c8;refine dS [jx H,gS G V I,jx J,gS L M N] ?_;intro bc af br;refine zG ?_;exact sK (j+1,H,G,V,I,J,L,M,N) ⟨rfl,zo,zy,af,((a9.t zt).as (congrArg Rat.num ((wK i l).symm))),((ab.t zt).as (congrArg denZ ((wK i l).symm))),(by show j+1≤gP xs;omega)⟩
   refine zG ?_;exact sK (j+1,p,o,v,u,A,B,C,D) ⟨rfl,zo,zy,zp,((e.t zt).as (congrArg Rat.num (pG (wK i l) (.inr y)))),((f.t zt).as (congrArg denZ (pG (wK i l) (.inr y)))),(by show j+1≤gP xs;omega)⟩
  refine zG ?_;exact sK (j+1,p,o,v,u,A,B,C,D) ⟨rfl,zo,zy,zp,((e.t zt).as (congrArg Rat.num (pG (wK i (kF zo)) (.inl w)))),((f.t zt).as (congrArg denZ (pG (wK i (kF zo)) (.inl w)))),(by show j+1≤gP xs;omega)⟩
 refine zG ?_;refine sS [jx p,gS o v u,jx A,gS B C D] ?_;intro bd bw bs;refine zq ?_;exact ⟨_,_,_,_,_,_,_,_,rfl,(e.t zt).as (by rw [show j=gP xs by omega,xd]),(f.t zt).as (by rw [show j=gP xs by omega,xd])⟩
theorem dotQ (k:Nat)(g:GG h n)(l:QS h n (gS ax lx cx) xs)(m:QS h n (gS ay ly cy) ys)(d:∀q∈xs,Sz a q)(e:∀q∈ys,Sz b q)(i:gP xs≤gP ys)(hb:gP xs*(a+b+1)+a+b+2≤2496):CX (cal (k+11)) 46 [gS ax lx cx,gS ay ly cy] h n (QV (dotR xs (ys.take (gP xs)))):=by
 have o:=BG (gP xs) (show 0<a+b+1 by omega);exact ziz k g l m d e i (c:=1+gP xs*(a+b+1)) (fun j f=>(nf d e j f zo).mono (by have:=o0 (a+b+1) f;omega)) zo zo
end
theorem mN {i j:Nat}(h:i≤j):10^i≤10^j:=sN zd h
theorem hH (k:Nat)(h:HF)(n:Nat)(s:List UInt8)(f:AllD s)(q:gP s≤9):VF (cal (k+1)) 131 [jy ⟨⟨s⟩⟩] h n fun v=>v=gZ .i64 ((dval s:Nat):Int):=by
 refine zO (fn:=Tryz.f131) R4 ?_;refine Zw ?_;refine zM ?_;refine st_I (ik:=.i64) (a:=(gP s:Int)) R5 ?_;refine Zb ?_;refine ye (α:=Nat) (fun m=>[(0,jy ⟨⟨s⟩⟩),(3,gZ .i64 ((dval (s.take m):Nat):Int)),(6,gZ .i64 (gP s:Int)),(7,gZ .i64 (m:Int))]) (fun m g o w=>h=g∧n=o∧w=[]∧m≤gP s) (fun m=>gP s-m) 0 ⟨rfl,rfl,rfl,rfl,eT⟩ ⟨rfl,rfl,rfl,gH⟩ (by show gP s-0<LL;unfold LL;omega) ?_;rintro m t _ _ _ ⟨rfl,rfl,rfl,u⟩;refine zN ?_;by_cases hml:m=gP s
 ·refine Zp ?_;exact retF _ rfl (zi rfl) R2 (by rw [hml,xd];rfl)
 obtain ⟨b,d⟩:∃b,s[m]?=some b:=⟨s[m]'zo,kF zo⟩;have p:=f b (mp d);have e:dval (s.take m)<10^m:=by
  have:=qy (s:=s.take m) fun b d=>f b (AB d);rw [sn,AN zo] at this;exact this
 have l:=mN (i:=m) (j:=8) zo;rw [show (10:Nat)^8=100000000 from rfl] at l;have c:dval (s.take (m+1))=10*dval (s.take m)+(b.toNat-48):=by rw [mA d,rK]
 generalize dval (s.take m)=V at e c;refine Zq ?_;refine zM ?_;refine st_mul (a:=10) (b:=(V:Int)) rfl rfl rfl rfl rfl rfl zo ?_;refine Zc ?_;refine yH (j:=m) R8 d ?_;refine jA (a:=b.toNat) (b:=48) R6 zo ?_;refine wm (ik:=.i64) (a:=((b.toNat-48:Nat):Int)) R6 (by show some (gZ .i64 (Ai .i64 _))=_;rw [xj zo]) ?_;refine uI (a:=10*(V:Int)) (b:=((b.toNat-48:Nat):Int)) R6 zo ?_;refine Zo ?_;exact goOn (m+1) (by show gP s-(m+1)<gP s-m;omega) ⟨rfl,by show gZ .i64 _=gZ .i64 _;rw [c];congr 1,rfl,rfl,eT⟩ ⟨rfl,rfl,rfl,by show m+1≤_;omega⟩
theorem zez (k:Nat)(h:HF)(n:Nat)(a b:Nat)(hb:b<9223372036854775808):VF (cal (k+1)) 103 [gZ .i64 (a:Int),gZ .i64 (b:Int)] h n fun v=>v=gZ .i64 ((rp a b:Nat):Int):=by
 refine zO (fn:=Tryz.f103) R4 ?_;refine Zd ?_;refine ye (α:=Nat×Nat) (fun z=>[(0,gZ .i64 (z.1:Int)),(1,gZ .i64 (z.2:Int))]) (fun z e f w=>h=e∧n=f∧w=[]∧z.2<9223372036854775808∧rp z.1 z.2=rp a b) (fun z=>z.2) (a,b) ⟨rfl,rfl,eT⟩ ⟨rfl,rfl,rfl,hb,rfl⟩ (by show b<LL;unfold LL;omega) ?_;rintro ⟨x,y⟩ t _ _ _ ⟨rfl,rfl,rfl,d,c⟩;simp only at d c;refine zN ?_;by_cases hy0:y=0
 ·subst hy0;refine Zp ?_;exact retF _ rfl (zi rfl) R2 (by rw [←c,Nat.gcd_zero_right];rfl)
 refine Zt ?_;rw [wb rfl];refine ZA ?_;refine zj1 (a:=(x:Int)) (b:=(y:Int)) R6 zo ?_;rw [show (x:Int).tmod (y:Int)=((x%y:Nat):Int) from rfl];refine Zb ?_;exact goOn (y,x%y) (Az _ zo) ⟨rfl,rfl,eT⟩ ⟨rfl,rfl,rfl,EZ (Az _ zo) d,by show rp y (x%y)=_;rw [←c,Cp x y,Nat.gcd_rec y x,Cp]⟩
def ShR (s:List UInt8)(v:Value):Prop:=∃(x y:Int) (ok:Bool),v=.tuple #[.agg #[gZ .i64 x,gZ .i64 y],jx ok]∧(ok=true→∃q:Rat,ratT q=s∧x=q.num∧y=(q.den:Int)∧q.num.natAbs<1000000000∧q.den<1000000000)
def ShT (s:List UInt8):Prop:=gP s≤20∧(spl s).1.length≤9∧(spl s).2.1.length≤9∧(spl s).2.2=true∧((spl s).2.1=[]∨rp (dval (spl s).1) (dval (spl s).2.1)=1)
def ShR2 (s:List UInt8)(v:Value):Prop:=∃(x y:Int) (ok:Bool),v=.tuple #[.agg #[gZ .i64 x,gZ .i64 y],jx ok]∧(ok=true→∃q:Rat,ratT q=s∧x=q.num∧y=(q.den:Int)∧q.num.natAbs<1000000000∧q.den<1000000000)∧(ShT s→ok=true)
theorem iU {s:List UInt8}(h:AllD s)(a:gP s≤9):dval s<1000000000:=Af (qy h) (Aa (mN a) zd)
theorem kj (k:Nat)(h:HF)(n:Nat)(s:List UInt8)(T:gP s<1000000):VX (cal (k+5)) 72 [jy ⟨⟨s⟩⟩] h n (ShR2 s):=by
 refine zw (fn:=Tryz.f72) R4 ?_;refine zN ?_;refine xV R5 ?_;refine Zb ?_;generalize hh:upd h (3*n+2) _=h1;have c:∃e,h1 (3*n+2)=some (.row [gZ .i64 0,gZ .i64 0] e):=⟨_,by rw [←hh,zg];rfl⟩;obtain ⟨y,c⟩:=c;have j:Ext n h h1:=fun b i=>by rw [←hh,zm zo]
 clear hh;refine zM ?_;refine st_I (ik:=.i64) (a:=(gP s:Int)) R5 ?_;by_cases hl20:20<gP s
 ·refine Zt ?_;refine zS (v:=.agg #[gZ .i64 0,gZ .i64 0]) R4 rfl ?_;refine yc [gZ .i64 0,gZ .i64 0] R8 c rfl (by show 3*n≤3*n+2;omega) ?_;refine Zb ?_;exact yR (jx false) R6 (zg _ _ _) rfl zo (fun b i=>(zm zo).trans (j b i)) ⟨_,_,false,rfl,(fun h=>by cases h),fun h=>by have:=h.1;omega⟩
 refine Zz ?_;refine zF _ R5 (cn k h1 (n+1) s T) ?_;rintro _ J d _ ⟨rfl,V,G,rfl⟩;replace c:=(G (3*n+2) zo).trans c;replace j:Ext n h J:=fun b i=>(G b zo).trans (j b i);have l:(spl s).2.2=true→Frm s (spl s).1 (spl s).2.1:=fun e=>rZ (by rw [←e]);have m:ShT s→(spl s).1.length≤9∧(spl s).2.1.length≤9∧(spl s).2.2=true∧((spl s).2.1=[]∨rp (dval (spl s).1) (dval (spl s).2.1)=1):=fun h=>h.2;generalize (spl s).1=M at l m ⊢;generalize (spl s).2.1=D at l m ⊢;generalize (spl s).2.2=ok at l m ⊢;generalize hmi:z6 s=mi;repeat refine zR ?_
 refine xV R5 ?_;refine yc [jx mi,jy ⟨⟨M⟩⟩,jy ⟨⟨D⟩⟩] R8 (zg _ _ _) rfl (by show 3*n≤3*d+2;omega) ?_;rw [uk];generalize hh:upd J (3*d+2) _=h2;replace c:h2 (3*n+2)=some (.row [gZ .i64 0,gZ .i64 0] y):=by rw [←hh,zm zo];exact c
 have f:∃e,h2 (3*d+2)=some (.row [jx mi,jy ⟨⟨M⟩⟩,jy ⟨⟨D⟩⟩] e):=⟨_,by rw [←hh,zg]⟩;obtain ⟨L,f⟩:=f;replace j:Ext n h h2:=fun b i=>by rw [←hh,zm zo,j b i]
 clear hh;repeat refine zR ?_
 simp only [yu,xg,zK,yY];refine yj (α:=Bool) (fun z=>[(2,mo (some ⟨3*n+2,0,none⟩)),(4,mo (some ⟨3*d+2,0,none⟩)),(29,jx z)]) (fun z u N w=>h2=u∧N=d+1∧w=[]∧(z=false→ok=true∧gP M≤9∧gP D≤9)∧(z=true→¬ShT s)) ?_ ?_
 ·refine zN ?_;cases ok with
  |false=>
   refine Zb ?_;exact zA true ⟨rfl,rfl,rfl,eT⟩ ⟨rfl,rfl,rfl,(fun h=>by cases h),(fun _ h=>by cases (m h).2.2.1)⟩
  |true=>
  repeat refine zR ?_
  refine zT R6 f (v:=jy ⟨⟨M⟩⟩) R2 ?_;refine st_I (ik:=.i64) (a:=(gP M:Int)) R5 ?_;by_cases C:9<gP M
  ·refine Zb ?_;exact zA true ⟨rfl,rfl,rfl,eT⟩ ⟨rfl,rfl,rfl,(fun h=>by cases h),(fun _ h=>by have:=(m h).1;omega)⟩
  repeat refine zR ?_
  refine zT R6 f (v:=jy ⟨⟨D⟩⟩) R2 ?_;refine st_I (ik:=.i64) (a:=(gP D:Int)) R5 ?_;by_cases B:9<gP D
  ·refine Zb ?_;exact zA true ⟨rfl,rfl,rfl,eT⟩ ⟨rfl,rfl,rfl,(fun h=>by cases h),(fun _ h=>by have:=(m h).2.1;omega)⟩
  refine Zb ?_;exact zA false ⟨rfl,rfl,rfl,eT⟩ ⟨rfl,rfl,rfl,(fun _=>⟨by first|rfl|trivial,zo,zo⟩),fun h=>by cases h⟩
 rintro z t _ _ _ ⟨rfl,rfl,rfl,H,R⟩;cases z with
 |true=>
  rw [ze rfl];refine zN ?_;refine zS (v:=.agg #[gZ .i64 0,gZ .i64 0]) R4 rfl ?_;refine yc [gZ .i64 0,gZ .i64 0] R8 c rfl (by show 3*n≤3*n+2;omega) ?_;refine Zb ?_;exact yR (jx false) R6 (zg _ _ _) rfl zo (fun b i=>(zm zo).trans (j b i)) ⟨_,_,false,rfl,(fun h=>by cases h),fun h=>eN h (R rfl)⟩
 |false=>
 rw [za rfl];refine zN ?_;obtain ⟨rfl,C,B⟩:=H rfl;have F:=l rfl;have U:=iU F.dm C;have O:=iU F.dd B;clear H l;repeat refine zR ?_
 refine zT R6 f (v:=jy ⟨⟨M⟩⟩) R2 ?_;refine yi _ R5 (hH (k+3) h2 (d+1) M F.dm C) ?_;rintro _ rfl;refine zS (v:=.agg #[gZ .i64 ((dval M:Nat):Int),gZ .i64 1]) R4 rfl ?_;refine xV R5 ?_;refine yc [gZ .i64 ((dval M:Nat):Int),gZ .i64 1] R8 (zg _ _ _) rfl (by show 3*n≤3*(d+1)+2;omega) ?_;rw [uk];generalize hh:upd h2 (3*(d+1)+2) _=h3;replace c:h3 (3*n+2)=some (.row [gZ .i64 0,gZ .i64 0] y):=by rw [←hh,zm zo];exact c
 replace f:h3 (3*d+2)=some (.row [jx mi,jy ⟨⟨M⟩⟩,jy ⟨⟨D⟩⟩] L):=by rw [←hh,zm zo];exact f
 have g:∃e,h3 (3*(d+1)+2)=some (.row [gZ .i64 ((dval M:Nat):Int),gZ .i64 1] e):=⟨_,by rw [←hh,zg]⟩;obtain ⟨A,g⟩:=g;replace j:Ext n h h3:=fun b i=>by rw [←hh,zm zo,j b i]
 clear hh;refine Zj ?_;refine zT R6 f (v:=jy ⟨⟨D⟩⟩) R2 ?_;refine zl5 (!(D==[])) rfl rfl rfl rfl rfl rfl rfl ?_;simp only [yu,xg,zK,yY];refine yj (α:=Nat) (fun _=>[(2,mo (some ⟨3*n+2,0,none⟩)),(4,mo (some ⟨3*d+2,0,none⟩)),(6,mo (some ⟨3*(d+1)+2,0,none⟩))]) (fun z u N w=>w=[]∧N=d+1+1∧Ext n h u∧u (3*n+2)=some (.row [gZ .i64 0,gZ .i64 0] y)∧u (3*d+2)=some (.row [jx mi,jy ⟨⟨M⟩⟩,jy ⟨⟨D⟩⟩] L)∧(∃e,u (3*(d+1)+2)=some (.row [gZ .i64 ((dval M:Nat):Int),gZ .i64 (z:Int)] e))∧z=(if D=[] then 1 else dval D)∧(D=[]∨rp (dval M) (dval D)=1)) ?_ ?_
 ·by_cases hD:D=[]
  ·rw [za (by show jx _=_;rw [hD];rfl)];refine zN ?_;exact zA 1 ⟨rfl,rfl,rfl,eT⟩ ⟨rfl,rfl,j,c,f,⟨A,g⟩,by rw [eS hD],.inl hD⟩
  rw [ze (by show jx _=_;rw [show (D==[])=false from by simpa using hD];rfl)];refine Zj ?_;refine zT R6 f (v:=jy ⟨⟨D⟩⟩) R2 ?_;refine yi _ R5 (hH (k+3) h3 (d+1+1) D F.dd B) ?_;rintro _ rfl;repeat refine zR ?_
  refine yF (cs:=[gZ .i64 ((dval D:Nat):Int)]) R8 g zb (by show 3*n≤3*(d+1)+2;omega) ?_;generalize hh:upd h3 (3*(d+1)+2) _=h4;replace c:h4 (3*n+2)=some (.row [gZ .i64 0,gZ .i64 0] y):=by rw [←hh,zm zo];exact c
  replace f:h4 (3*d+2)=some (.row [jx mi,jy ⟨⟨M⟩⟩,jy ⟨⟨D⟩⟩] L):=by rw [←hh,zm zo];exact f
  replace g:h4 (3*(d+1)+2)=some (.row [gZ .i64 ((dval M:Nat):Int),gZ .i64 ((dval D:Nat):Int)] A):=by rw [←hh,zg];rfl
  replace j:Ext n h h4:=fun b i=>by rw [←hh,zm zo,j b i]
  clear hh;refine Zj ?_;refine zT R6 g (v:=gZ .i64 ((dval M:Nat):Int)) R2 ?_;repeat refine zR ?_
  refine zT R6 g (v:=gZ .i64 ((dval D:Nat):Int)) R2 ?_;refine yi _ R5 (zez (k+3) h4 (d+1+1) (dval M) (dval D) zo) ?_;rintro _ rfl;by_cases I:rp (dval M) (dval D)=1
  ·refine Zl ?_;exact zA (dval D) ⟨rfl,rfl,rfl,eT⟩ ⟨rfl,rfl,j,c,f,⟨A,g⟩,by rw [eP hD],.inr I⟩
  refine Zt ?_;refine zS (v:=.agg #[gZ .i64 0,gZ .i64 0]) R4 rfl ?_;refine yc [gZ .i64 0,gZ .i64 0] R8 c rfl (by show 3*n≤3*n+2;omega) ?_;refine Zb ?_;exact yR (jx false) R6 (zg _ _ _) rfl zo (fun b i=>(zm zo).trans (j b i)) ⟨_,_,false,rfl,(fun h=>by cases h),fun h=>by
   rcases (m h).2.2.2 with h|h
   ·exact (hD h).elim
   ·exact (I h).elim⟩
 rintro z t S W _ ⟨rfl,rfl,j,c,f,⟨A,g⟩,H,I⟩;obtain ⟨q,P,o,p⟩:=F.rat I;rw [←H] at p;rw [hmi] at o;have K:z<1000000000:=by
  rw [H];split
  ·decide
  exact O
 refine Zj ?_;refine zT R6 f (v:=jx mi) R2 ?_;refine zN ?_;cases mi with
 |true=>
  rw [ze rfl];refine Zj ?_;refine zT R6 g (v:=gZ .i64 ((dval M:Nat):Int)) R2 ?_;refine st_I (ik:=.i64) (a:= -((dval M:Nat):Int)) ⟨rfl,rfl,rfl,rfl,(by show some (gZ .i64 (Ai .i64 _))=_;rw [xj zo,Int.zero_sub])⟩ ?_;repeat refine zR ?_
  refine yF (cs:=[gZ .i64 (-((dval M:Nat):Int))]) R8 g zb (by show 3*n≤3*(d+1)+2;omega) ?_;generalize hh:upd S (3*(d+1)+2) _=h6;replace c:h6 (3*n+2)=some (.row [gZ .i64 0,gZ .i64 0] y):=by rw [←hh,zm zo];exact c
  replace g:h6 (3*(d+1)+2)=some (.row [gZ .i64 (-((dval M:Nat):Int)),gZ .i64 (z:Int)] A):=by rw [←hh,zg];rfl
  replace j:Ext n h h6:=fun b i=>by rw [←hh,zm zo,j b i]
  clear hh;refine zN ?_;refine z7 (v:=.agg #[gZ .i64 (-((dval M:Nat):Int)),gZ .i64 (z:Int)]) R5 (yw R2 g rfl zb rfl) ?_;refine yc [gZ .i64 (-((dval M:Nat):Int)),gZ .i64 (z:Int)] R8 c rfl (by show 3*n≤3*n+2;omega) ?_;refine Zb ?_;refine yR (jx true) R6 (zg _ _ _) rfl zo (fun b i=>(zm zo).trans (j b i)) ⟨_,_,true,rfl,(fun _=>⟨q,P,?_,by rw [p],?_,by rw [p];exact K⟩),fun _=>rfl⟩
  ·rw [o];rfl
  rw [o];simp only [if_true];omega
 |false=>
  rw [za rfl];refine zN ?_;refine z7 (v:=.agg #[gZ .i64 ((dval M:Nat):Int),gZ .i64 (z:Int)]) R5 (yw R2 g rfl zb rfl) ?_;refine yc [gZ .i64 ((dval M:Nat):Int),gZ .i64 (z:Int)] R8 c rfl (by show 3*n≤3*n+2;omega) ?_;refine Zb ?_;refine yR (jx true) R6 (zg _ _ _) rfl zo (fun b i=>(zm zo).trans (j b i)) ⟨_,_,true,rfl,(fun _=>⟨q,P,?_,by rw [p],?_,by rw [p];exact K⟩),fun _=>rfl⟩
  ·rw [o];rfl
  rw [o];simp only [Bool.false_eq_true,if_false];omega
theorem jQ (k:Nat)(h:HF)(n:Nat)(s:List UInt8)(f:gP s<1000000):VX (cal (k+5)) 72 [jy ⟨⟨s⟩⟩] h n (ShR s):=by
 refine wc (kj k h n s f) ?_;rintro v i j w ⟨a,b,c,x,y,g,e,d,_⟩;exact ⟨a,b,c,x,y,g,e,d⟩
section
variable {ty:TypeId}{x:Operand}{T:List Nat}
section
variable {h:HF}{n:Nat}{d:Tmp}
theorem zj2 {a b c:Int}(j:Za X ops t o d (o.op=.binOp .quo ty x y ty'∧evF t x=gZ .i64 a∧evF t y=gZ .i64 b))(i:b≠0)(g:a.tdiv b=c)(f: -9223372036854775808≤c∧c<9223372036854775808)
  (k:EO X ops r ⟨upd t d (gZ .i64 c),h,n,w⟩ Q):EO X ops (o::r) ⟨t,h,n,w⟩ Q:=by
 refine ZB j ?_ k;have:ikEq .i64 .i64=true:=rfl;simp only [binE,isSh,this,intE,eP i,g,xj f]
theorem zo3 {a:Int}(i:zh ops t o=true)(c:o.dst=some d)(f:zv X.nt (some d)=true)(b:o.op=.unOp .neg ty x)(hx:evF t x=gZ .i64 a)(g: -9223372036854775808≤ -a∧ -a<9223372036854775808)
  (k:EO X ops r ⟨upd t d (gZ .i64 (-a)),h,n,w⟩ Q):EO X ops (o::r) ⟨t,h,n,w⟩ Q:=by
 refine zS ⟨i,c,f,(by rw [b];rfl)⟩ ?_ k;rw [b];show unE .neg (evF t x)=_;rw [hx];show some (gZ .i64 (Ai .i64 (0-a)))=_;rw [show 0-a= -a by omega,xj g]
end
theorem zcd (k:Nat){h:HF}(L:GK.G h){n:Nat}(Y:20≤n)(O:c0.take (gP T)=u8s T)(K:60≤B∧B<3*n)(s:h B=some (.row c0 e))(f:cap=gP c0∧gP T+21≤cap∧cap<1000000){x:Int}(hx: -9223372036854775808≤x∧x<9223372036854775808):
  CF (cal (k+4)) 150 [gS (some ⟨B,0,none⟩) (gP T) cap,gZ .i64 x,gZ .i64 10] h n fun v U Z w=>BufT T h n B cap e c0 (intN x) v U Z w:=by
 refine zw (fn:=Tryz.f150) R4 ?_;obtain ⟨m,P⟩:∃m,m=x.natAbs:=⟨_,rfl⟩;refine Ze ?_;refine zN ?_;by_cases hneg:x<0
 ·have i:intN x=[45]++decN m:=by unfold intN;rw [eS hneg,P]
  refine zM ?_;refine wm (ik:=.u64) (a:=((18446744073709551616-m:Nat):Int)) R6 ?_ ?_
  ·show some (gZ .u64 (Ai .u64 x))=_;rw [show x= -(m:Int) from zo,qK m zo]
  refine zM ?_;refine Zd ?_;rw [ze rfl];refine Ze ?_;refine wE [gZ .u8 45] (l:=1) (c:=1) R5 ?_;intro V p1 J;have D:=(J B K.2).trans s;refine yM R5 (tG (m:=1) R3 zb (yp p1 R2) zo ⟨rfl,eU⟩ zo D zo rfl) ?_;rw [pN (by show B<3*n;exact K.2)];rw [show gP T+1=gP (T++[45]) from by rw [k0];rfl];obtain ⟨t1,S⟩:=vp (N:=[45]) O (by show gP T+1≤_;omega);have M:GK.G (upd V B (some (.row (zu c0 (gP T) [gZ .u8 45]) e))):=G_fr L fun b g _=>(zm zo).trans (J b zo);refine Zs ?_;refine zS (v:=gZ .u64 (m:Int)) R4 ?_ ?_
  ·show some (gZ .u64 (Ai .u64 (0-((18446744073709551616-m:Nat):Int))))=_;rw [ra _ zo];congr 3;omega
  refine Zk ?_;refine ZA ?_;refine zF _ R5 (sV k M (n:=n+1) zo (T:=T++[45]) (B:=B) (cap:=cap) (u:=m) t1 zo (zg _ _ _) ⟨by rw [S];exact f.1,by rw [k0];simp;omega,f.2.2⟩ zo) ?_;rintro v W R w3 ⟨rfl,F,C,p,I,q,j,A⟩;refine Zk ?_;refine retH [gS (some ⟨B,0,none⟩) (gP (T++[45]++decN m)) cap] R3 ⟨by rw [i,←Ak];rfl,by show n≤R;omega,fun b g=>?_,fun b g H=>(p b zo H).trans ((zm H).trans (J b g)),I,q,j.trans S,by rw [i,←Ak];exact A⟩;rcases yN.1 g with h|⟨h,_⟩
  ·exact qq.1 h
  exact C b h
 have i:intN x=decN m:=by unfold intN;rw [eP hneg,P];rfl
 obtain rfl:x=(m:Int):=zo;refine zM ?_;refine se (c:=m) R7 zo ?_;refine zM ?_;refine Zd ?_;rw [za rfl];refine Zn ?_;refine zM ?_;refine zF _ R5 (sV k L Y (T:=T) (B:=B) (cap:=cap) (u:=m) O zo s ⟨f.1,zo,f.2.2⟩ zo) ?_;rintro v W R w3 ⟨rfl,F,C,p,I,q,j,A⟩;refine Zk ?_;refine retH [gS (some ⟨B,0,none⟩) (gP (T++decN m)) cap] R3 ⟨by rw [i];rfl,F,fun b g=>?_,p,I,q,j,by rw [i];exact A⟩;rcases yN.1 g with h|⟨h,_⟩
 ·exact eN h og
 exact C b h
theorem nJ (k:Nat){h:HF}(u:GK.G h){n:Nat}(D:20≤n)(A:c0.take (gP T)=u8s T)(s:60≤B∧B<3*n)(a:h B=some (.row c0 e))(c:cap=gP c0∧gP T+21≤cap∧cap<1000000){x:Int}(hx: -9223372036854775808≤x∧x<9223372036854775808):
  CF (cal (k+5)) 104 [gS (some ⟨B,0,none⟩) (gP T) cap,gZ .i64 x,gZ .i64 10] h n fun v q F w=>BufT T h n B cap e c0 (intN x) v q F w:=by
 refine zw (fn:=Tryz.f104) R4 ?_;refine Ze ?_;refine Zn ?_;refine zM ?_;refine zF _ R5 (zcd k u D A s a c hx) ?_;rintro v H I J ⟨rfl,g,m,i,p,j,f,l⟩;refine Zk ?_;refine retH [gS (some ⟨B,0,none⟩) (gP (T++intN x)) cap] R3 ⟨rfl,g,fun b C=>?_,i,p,j,f,l⟩;rcases yN.1 C with h|⟨h,_⟩
 ·exact eN h og
 exact m b h
theorem pd (N:Int){D:Nat}(a:0<D):(AK N D).num=N.tdiv ((rp N.natAbs D:Nat):Int)∧((AK N D).den:Int)=(D:Int).tdiv ((rp N.natAbs D:Nat):Int):=by
 have b:0<rp N.natAbs D:=A6 _ a;rw [Fy,←Rat.normalize_eq_mkRat zo,Rat.normalize_eq];simp only;refine ⟨?_,?_⟩
 ·rw [Int.tdiv_eq_ediv_of_dvd];exact CA.2 (B5 _ _)
 rfl
theorem mS {x:Int}(hx: -9223372036854775808≤x∧x<9223372036854775808):gP (intN x)≤21:=by
 have a:gP (decN x.natAbs)≤20:=by
  unfold decN;split
  ·decide
  unfold decB;rw [mu];exact ws 20 _ zo
 unfold intN;rw [k0];split<;>simp<;>omega
theorem eF (k:Nat){h:HF}(A:GK.G h){n:Nat}(I:20≤n){N:Int}{D:Nat}(hN: -9000000000000000000≤N∧N≤9000000000000000000)(u:0<D∧D≤9000000000000000000):VF (cal (k+6)) 49 [gZ .i64 N,gZ .i64 (D:Int)] h n fun v=>v=jy ⟨⟨ratT (AK N D)⟩⟩:=by
 refine zO (fn:=Tryz.f49) R4 ?_;obtain ⟨g,i⟩:=pd N u.1;have hg:0<rp N.natAbs D:=A6 _ u.1;have a0:rp N.natAbs D≤D:=EE u.1 (B9 _ _);generalize AK N D=q at g i ⊢;have a6:(q.den:Int)≤D∧(0:Int)<q.den:=by
  refine ⟨?_,by have:=q.den_pos;omega⟩;rw [i];exact GV.2 (A3 _ _)
 have a7: -9000000000000000000≤q.num∧q.num≤9000000000000000000:=by
  have h1:q.num.natAbs≤N.natAbs:=by rw [g,Int.natAbs_tdiv];exact A3 _ _
  omega
 refine Ze ?_;refine Zd ?_;rw [za rfl,yu,zK,yY];refine yj (α:=Unit) (fun _=>[(0,gZ .i64 q.num),(1,gZ .i64 (q.den:Int))]) (fun _ h' n' w=>h=h'∧n'=n∧w=[]) ?_ ?_
 ·refine zN ?_;by_cases hD1:D=1
  ·subst hD1;rw [Nat.gcd_one_right] at g i;refine Zl ?_;exact zA () ⟨by rw [g];simp;rfl,by rw [i];rfl,eT⟩ ⟨rfl,rfl,rfl⟩
  refine Zx ?_;refine zo3 rfl rfl rfl rfl rfl zo ?_;refine st_I (ik:=.i64) (a:=(N.natAbs:Int)) ⟨rfl,rfl,rfl,rfl,?_⟩ ?_
  ·show some (gZ .i64 (if N< -N then -N else N))=_;congr 2;split<;>omega
  refine zM ?_;refine yi _ R5 (zez (k+4) _ _ N.natAbs D zo) ?_;rintro _ rfl;refine Zk ?_;rw [wb rfl];refine Zc ?_;refine zj2 (c:=q.num) R6 zo g.symm zo ?_;refine Zc ?_;refine zj2 (c:=(q.den:Int)) R6 zo i.symm zo ?_;refine Zc ?_;refine zN ?_;exact zA () ⟨rfl,rfl,eT⟩ ⟨rfl,rfl,rfl⟩
 rintro _ t _ n _ ⟨rfl,rfl,rfl⟩;refine zN ?_;by_cases hq1:q.den=1
 ·refine Zh ?_;refine Ze ?_;refine yi _ R5 (mV (k+1) A I (x:=q.num) zo) ?_;rintro _ rfl;refine Zk ?_;exact retF _ rfl (zi rfl) R2 (by rw [tj (yr.2 hq1)];rfl)
 have U:¬denZ q=0:=mt yr.1 hq1;refine Zl ?_;refine wt (ns 48 (gZ .u8 0)) R6 ?_;intro h1 p1 W;have C:=rR A W I;have a1:gP (intN q.num)≤21:=mS zo;refine zN ?_;refine te (j:=0) R8 rfl (zB n) zo ?_;refine zM ?_;refine zF _ R5 (nJ k C (n:=n+1) zo (T:=[]) (B:=3*n+2) (cap:=48) rfl zo p1 ⟨by rw [ru],by show 0+21≤48;omega,zo⟩ (x:=q.num) zo) ?_;rintro v h2 n2 w2 ⟨rfl,a3,R,J,Z,K,p,O⟩;rw [zV fun b f=>by rw [R b f];show 3*n≤_;omega];rw [ru] at p;refine Zs ?_;refine wE [gZ .u8 47] (l:=1) (c:=1) R5 ?_;intro h3 p3 Y;have L:=(Y (3*n+2) zo).trans K;refine yM R5 (tG (m:=1) R3 zb (yp p3 R2) (by show (gP ([]++intN q.num)+1)*1≤_;rw [Au];omega) ⟨rfl,eU⟩ (by rw [Au];omega) L (by rw [Au];omega) rfl) ?_;rw [zV fun b f=>by rw [qq.1 f];show 3*n≤_;omega];rw [show gP (([]:List Nat)++intN q.num)+1=gP (([]:List Nat)++intN q.num++[47]) from by simp];obtain ⟨t1,V⟩:=vp (N:=[47]) O (by show gP ([]++intN q.num)+1≤_;rw [Au];omega);generalize hh4:upd h3 (3*n+2) _=h4;have F:GK.G h4:=by
  rw [←hh4];exact G_fr A fun b f _=>(zm zo).trans ((Y b zo).trans ((J b zo zo).trans (W b zo)))
 have s:∃e,h4 (3*n+2)=some (.row (zu Z (gP ([]++intN q.num)) [gZ .u8 47]) e):=⟨_,by rw [←hh4];exact zg _ _ _⟩;obtain ⟨e4,s⟩:=s;have a2:gP (intN (q.den:Int))≤21:=mS zo;refine Zk ?_;refine Zc ?_;refine zF _ R5 (nJ k F (n:=n2+1) zo (T:=[]++intN q.num++[47]) (B:=3*n+2) (cap:=48) t1 zo s ⟨by rw [V,p],by rw [k0,Au];simp;omega,zo⟩ (x:=(q.den:Int)) zo) ?_;rintro v h5 n5 w5 ⟨rfl,a4,S,a5,c5,M,H,P⟩;rw [zV fun b f=>by rw [S b f];show 3*n≤_;omega];refine pY R5 (rg (B:=[]++intN q.num++[47]++intN (q.den:Int)) R3 (wV M (by rw [Av];exact P) (by rw [H,V,p];simp only [k0,Au,nP];omega) (by simp only [k0,Au,nP];omega))) ?_;refine Zk ?_;refine retF _ rfl (zi rfl) R2 ?_;show jy _=_;rw [Au,jS U,wq U]
end
section
variable {h:HF}{n r:Nat}{s:List UInt8}
structure SR (s:List UInt8)(x y:Int):Prop where
 e1:x=(zj s).num
 e2:y=((zj s).den:Int)
 b1: -1000000000<x∧x<1000000000
 b2:0<y∧y<1000000000
theorem mul9 {a b:Int}(c: -1000000000<a∧a<1000000000)(hb: -1000000000<b∧b<1000000000): -1000000000000000000≤a*b∧a*b≤1000000000000000000:=by
 have h:(a*b).natAbs≤1000000000*1000000000:=by
  rw [AF];exact Ar zo zo
 omega
theorem zp5 {a b:Int}(c:0<a∧a<1000000000)(hb:0<b∧b<1000000000):0<a*b∧a*b≤1000000000000000000:=⟨Int.mul_pos c.1 hb.1,(mul9 ⟨zo,c.2⟩ ⟨zo,hb.2⟩).2⟩
theorem mL (k:Nat)(h:HF)(n:Nat)(s:List UInt8)(i:gP s<1000000):CX (cal (k+5)) 72 [jy ⟨⟨s⟩⟩] h n fun v _ _=>∃x y a,v=.tuple #[.agg #[gZ .i64 x,gZ .i64 y],jx a]∧(a=true→SR s x y):=by
 refine wc (jQ k h n s i) ?_;rintro v m o w ⟨b,c,d,x,y,a,rfl,g⟩;refine ⟨b,c,d,x,y,a,rfl,fun f=>?_⟩;obtain ⟨q,e,rfl,rfl,j,l⟩:=g f;rw [←pA e] at*
 have:=(zj s).den_pos;exact ⟨rfl,rfl,zo,zo⟩
theorem iN (k:Nat)(g:GG h n){N D:Int}(a: -9000000000000000000≤N∧N≤9000000000000000000)(b:0<D∧D≤9000000000000000000):CX (cal (k+6)) 49 [gZ .i64 N,gZ .i64 D] h n fun v _ _=>v=jy ⟨⟨ratT (AK N D)⟩⟩:=by
 obtain ⟨d,rfl⟩:∃d:Nat,D=(d:Int):=⟨D.toNat,zo⟩;exact (eF k g.1 g.2 a ⟨zo,zo⟩).cx
theorem zjb (k:Nat)(h:HF)(n:Nat)(a b:Int):CX (cal (k+3)) 68 [gZ .i64 a,gZ .i64 b] h n fun v _ _=>∃s:Int,v=gZ .i64 s∧(s= -1∧a<b∨s=0∧a=b∨s=1∧b<a):=by
 refine VF.cx (P:=fun v=>∃s:Int,v=gZ .i64 s∧(s= -1∧a<b∨s=0∧a=b∨s=1∧b<a)) ?_;refine zO (fn:=Tryz.f68) R4 ?_;refine Zd ?_;refine Zc ?_;refine yi _ R5 (zf7 k _ _ a b) ?_;rintro _ rfl;refine Zk ?_;refine retF _ rfl (zi rfl) R2 ⟨_,rfl,?_⟩;unfold cmpI;rcases DH a b with h|h|h
 ·exact .inl ⟨eS h,h⟩
 ·exact .inr (.inl ⟨by rw [eP zo,eP zo],h⟩)
 exact .inr (.inr ⟨by rw [eP zo,eS h],h⟩)
theorem SR.add {a b:List UInt8}{x y u v:Int}(p:SR a x y)(q:SR b u v):AK (x*v+u*y) (y*v)=zj a+zj b:=by
 rw [p.e1,p.e2,q.e1,q.e2,Rat.add_def',←Fy,Br]
theorem SR.mul {a b:List UInt8}{x y u v:Int}(p:SR a x y)(q:SR b u v):AK (x*u) (y*v)=zj a*zj b:=by
 rw [p.e1,p.e2,q.e1,q.e2,Rat.mul_def',←Fy,Br]
theorem SR.cmp {a b:List UInt8}{x y u v:Int}(p:SR a x y)(q:SR b u v):(x*v<u*y↔zj a<zj b)∧(x*v=u*y↔zj a=zj b)∧(u*y<x*v↔zj b<zj a):=by
 rw [p.e1,p.e2,q.e1,q.e2];have h:=jc (zj a) (zj b);exact ⟨h.1.symm,h.2.1.symm,h.2.2.symm⟩
theorem TL.ratT (h:Sz 1890 q):TL (ratT q):=by
 have a:∀V,V<2^1890→gP (decT V)≤570:=fun V b=>by
  unfold decT;split
  ·decide
  rw [mu,kY];exact ws 570 V (Af b (by decide+kernel))
 refine ⟨?_,fun m d e=>?_⟩
 ·have c:=a _ h.1;have f:=a _ h.2;unfold Go.Proofs.YtepkmadmigkgmaaGreatDoor.ratT;simp only [k0];split<;>split<;>simp<;>omega
 rw [px] at e;injection e with e1 e2
 injection e2 with e2 _
 subst e1 e2;refine ⟨a _ h.1,?_⟩;split
 ·exact CO _
 exact a _ h.2
theorem kh (k:Nat){a b:List UInt8}(ha:gP a<1000000)(hb:gP b<1000000):CX (cal (k+6)) 48 [jy ⟨⟨a⟩⟩,jy ⟨⟨b⟩⟩] h n fun v _ _=>∃x y u t ok,v=.tuple #[.agg #[gZ .i64 x,gZ .i64 y],.agg #[gZ .i64 u,gZ .i64 t],jx ok]∧(ok=true→SR a x y∧SR b u t):=by
 refine zw (fn:=Tryz.f48) R4 ?_;refine Zi ?_;intro o a4 ak;refine sA ?_;intro p a5 al;refine zG ?_;refine sC (mL _ _ _ a ha) ?_;rintro _ w R ⟨c,e,l,rfl,g⟩ au am;cases l
 ·refine Zi ?_;intro A a6 an;refine sS [gZ .i64 c,gZ .i64 e] ?_;intro B a7 T;refine zG ?_;refine sT #[gZ .i64 0,gZ .i64 0] ?_;refine sT #[gZ .i64 0,gZ .i64 0] ?_;refine sS [gZ .i64 0,gZ .i64 0] ?_;intro C a8 U;refine sS [gZ .i64 0,gZ .i64 0] ?_;intro D a9 V;refine zq ?_;exact ⟨_,_,_,_,_,rfl,fun j=>(by cases j)⟩
 have g:=g rfl;refine Zi ?_;intro F aa ao;refine sS [gZ .i64 c,gZ .i64 e] ?_;intro G ab W;refine zG ?_;refine sC (mL _ _ _ b hb) ?_;rintro _ H S ⟨d,f,m,rfl,i⟩ av ap;cases m
 ·refine Zi ?_;intro I ac aq;refine sS [gZ .i64 d,gZ .i64 f] ?_;intro J ad Y;refine zG ?_;refine sT #[gZ .i64 0,gZ .i64 0] ?_;refine sT #[gZ .i64 0,gZ .i64 0] ?_;refine sS [gZ .i64 0,gZ .i64 0] ?_;intro K ae Z;refine sS [gZ .i64 0,gZ .i64 0] ?_;intro L af a0;refine zq ?_;exact ⟨_,_,_,_,_,rfl,fun j=>(by cases j)⟩
 have i:=i rfl;refine Zi ?_;intro M ag ar;refine sS [gZ .i64 d,gZ .i64 f] ?_;intro N ah a1;refine zG ?_;refine zl [0,0,1,7,15] rfl ?_;refine zH ?_;refine dS [gZ .i64 c,gZ .i64 e] ?_;intro O ai a2;refine dS [gZ .i64 d,gZ .i64 f] ?_;intro P aj a3;refine zq ?_;exact ⟨_,_,_,_,_,rfl,fun _=>⟨g,i⟩⟩
theorem my (k:Nat)(g:GG h n)(hs:TL s):CX (cal (k+10)) 50 [jy ⟨⟨s⟩⟩] h n (QV (zj s)):=by
 refine zw (fn:=Tryz.f50) R4 ?_;refine Zi ?_;intro p F J;refine zG ?_;refine sC (zpj _ (g.x zx) hs) ?_;rintro _ u B ⟨b,a,j,c,d,e,f,i,o,rfl,l,m,A⟩ M K;refine Zi ?_;intro v G L;refine sS [jx b,gS a j c,jx d,gS e f i] ?_;intro w H C;refine zG ?_;refine sS [jx b,gS a j c,jx d,gS e f i] ?_;intro y I D;refine zq ?_;exact ⟨_,_,_,_,_,_,_,_,rfl,(l.t zt),(m.t zt)⟩
theorem addS (k:Nat)(g:GG h n){a b:List UInt8}(ha:TL a)(hb:TL b){p q:Nat}(C:Sz p (zj a))(F:Sz q (zj b))(aq:p+q+1≤2496)(G:Sz r (zj a+zj b))(hr:r≤1920):VF (cal (k+11)) 27 [jy ⟨⟨a⟩⟩,jy ⟨⟨b⟩⟩] h n fun v=>v=jy ⟨⟨ratT (zj a+zj b)⟩⟩:=by
 refine zO (fn:=Tryz.f27) R4 ?_;refine zG ?_;refine sC (kh _ ha.1 hb.1) ?_;rintro _ ac aw ⟨f,d,e,c,l,rfl,B⟩ bq bg;cases l
 ·refine Zi ?_;intro ad b8 bh;refine sA ?_;intro ae b9 bi;refine sS [gZ .i64 f,gZ .i64 d] ?_;intro af ba b4;refine sS [gZ .i64 e,gZ .i64 c] ?_;intro ag bb b5;refine zG ?_;refine sC (my _ (g.x zx) ha) ?_;rintro _ ah ax ⟨K,H,ar,S,W,a1,a5,a9,rfl,m,w⟩ br bj;refine zG ?_;refine sC (my _ (g.x zx) hb) ?_;rintro _ ai ay ⟨L,I,au,T,Y,a2,a6,aa,rfl,o,y⟩ bs bk;refine sC (addQ _ (g.x zx) (m.t zt) (w.t zt) o y C F zo) ?_;rintro _ aj az ⟨M,J,av,U,Z,a3,a7,ab,rfl,u,A⟩ bt bl;refine sC ((vx _ (g.x zx).1 (g.x zx).2 u A G hr).cx) ?_;rintro _ ak b0 rfl bu bm;refine zf ?_;exact rfl
 obtain ⟨i,j⟩:=B rfl;have V:=i.b1;have a0:=i.b2;have a4:=j.b1;have a8:=j.b2;refine Zi ?_;intro al bc bn;refine sA ?_;intro am bd bo;refine sS [gZ .i64 f,gZ .i64 d] ?_;intro an be b6;refine sS [gZ .i64 e,gZ .i64 c] ?_;intro ao bf b7;refine zG ?_;have O:=mul9 (a:=f) (b:=c) zo zo;refine st_mul rfl rfl rfl rfl rfl rfl zo ?_;refine zG ?_;have P:=mul9 (a:=e) (b:=d) zo zo;refine st_mul rfl rfl rfl rfl rfl rfl zo ?_;refine zG ?_;have R:=zp5 (a:=d) (b:=c) zo zo;refine st_mul rfl rfl rfl rfl rfl rfl zo ?_;refine sC (iN _ (g.x zx) (N:=((f*c)+(e*d))) (D:=(d*c)) zo zo) ?_;rintro _ ap b3 rfl bv bp;refine zf ?_;exact by rw [SR.add i j];rfl
theorem mulS (k:Nat)(g:GG h n){a b:List UInt8}(ha:TL a)(hb:TL b){p q:Nat}(C:Sz p (zj a))(F:Sz q (zj b))(ap:p+q+1≤2496)(G:Sz r (zj a*zj b))(hr:r≤1920):VF (cal (k+11)) 14 [jy ⟨⟨a⟩⟩,jy ⟨⟨b⟩⟩] h n fun v=>v=jy ⟨⟨ratT (zj a*zj b)⟩⟩:=by
 refine zO (fn:=Tryz.f14) R4 ?_;refine zG ?_;refine sC (kh _ ha.1 hb.1) ?_;rintro _ ab av ⟨e,f,c,d,l,rfl,B⟩ bp bf;cases l
 ·refine Zi ?_;intro ac b7 bg;refine sA ?_;intro ad b8 bh;refine sS [gZ .i64 e,gZ .i64 f] ?_;intro ae b9 b3;refine sS [gZ .i64 c,gZ .i64 d] ?_;intro af ba b4;refine zG ?_;refine sC (my _ (g.x zx) ha) ?_;rintro _ ag aw ⟨K,H,aq,R,V,a0,a4,a8,rfl,m,w⟩ bq bi;refine zG ?_;refine sC (my _ (g.x zx) hb) ?_;rintro _ ah ax ⟨L,I,ar,S,W,a1,a5,a9,rfl,o,y⟩ br bj;refine sC (mulQ _ (g.x zx) (m.t zt) (w.t zt) o y C F zo) ?_;rintro _ ai ay ⟨M,J,au,T,Y,a2,a6,aa,rfl,u,A⟩ bs bk;refine sC ((vx _ (g.x zx).1 (g.x zx).2 u A G hr).cx) ?_;rintro _ aj az rfl bt bl;refine zf ?_;exact rfl
 obtain ⟨i,j⟩:=B rfl;have U:=i.b1;have Z:=i.b2;have a3:=j.b1;have a7:=j.b2;refine Zi ?_;intro ak bb bm;refine sA ?_;intro al bc bn;refine sS [gZ .i64 e,gZ .i64 f] ?_;intro am bd b5;refine sS [gZ .i64 c,gZ .i64 d] ?_;intro an be b6;refine zG ?_;have O:=mul9 (a:=e) (b:=c) zo zo;refine st_mul rfl rfl rfl rfl rfl rfl zo ?_;refine zG ?_;have P:=zp5 (a:=f) (b:=d) zo zo;refine st_mul rfl rfl rfl rfl rfl rfl zo ?_;refine sC (iN _ (g.x zx) (N:=(e*c)) (D:=(f*d)) zo zo) ?_;rintro _ ao b0 rfl bu bo;refine zf ?_;exact by rw [SR.mul i j];rfl
theorem cmpS (k:Nat)(g:GG h n){a b:List UInt8}(ha:TL a)(hb:TL b){p q:Nat}(D:Sz p (zj a))(F:Sz q (zj b))(af:p+q+1≤2496):VF (cal (k+11)) 25 [jy ⟨⟨a⟩⟩,jy ⟨⟨b⟩⟩] h n fun v=>∃s:Int,v=gZ .i64 s∧(s= -1∧zj a<zj b∨s=0∧zj a=zj b∨s=1∧zj b<zj a):=by
 refine zO (fn:=Tryz.f25) R4 ?_;refine zG ?_;refine sC (kh _ ha.1 hb.1) ?_;rintro _ a2 ai ⟨i,j,e,f,u,rfl,C⟩ be b5;cases u
 ·refine Zi ?_;intro a3 ar b6;refine sA ?_;intro a4 au b7;refine sS [gZ .i64 i,gZ .i64 j] ?_;intro a5 av an;refine sS [gZ .i64 e,gZ .i64 f] ?_;intro a6 aw ao;refine zG ?_;refine sC (my _ (g.x zx) ha) ?_;rintro _ a7 aj ⟨I,G,ag,M,P,T,W,a0,rfl,w,A⟩ bf b8;refine zG ?_;refine sC (my _ (g.x zx) hb) ?_;rintro _ a8 ak ⟨J,H,ah,N,R,U,Y,a1,rfl,y,B⟩ bg b9;refine sC ((xp _ (w.t zt) (A.t zt) y B D F zo).cx) ?_;rintro _ a9 al ⟨b3,rfl,d⟩ bh ba;rcases d with ⟨rfl,d⟩|⟨rfl,d⟩|⟨rfl,d⟩
  ·refine zf ?_;exact ⟨_,rfl,.inl ⟨rfl,d⟩⟩
  ·refine zf ?_;exact ⟨_,rfl,.inr (.inl ⟨rfl,d⟩)⟩
  refine zf ?_;exact ⟨_,rfl,.inr (.inr ⟨rfl,d⟩)⟩
 obtain ⟨l,m⟩:=C rfl;have O:=l.b1;have S:=l.b2;have V:=m.b1;have Z:=m.b2;refine Zi ?_;intro aa ax bb;refine sA ?_;intro ab ay bc;refine sS [gZ .i64 i,gZ .i64 j] ?_;intro ac az ap;refine sS [gZ .i64 e,gZ .i64 f] ?_;intro ad b0 aq;refine zG ?_;have K:=mul9 (a:=i) (b:=f) zo zo;refine st_mul rfl rfl rfl rfl rfl rfl zo ?_;refine zG ?_;have L:=mul9 (a:=e) (b:=j) zo zo;refine st_mul rfl rfl rfl rfl rfl rfl zo ?_;refine sC (zjb _ _ _ _ _) ?_;rintro _ ae am ⟨b4,rfl,o⟩ bi bd;refine zf ?_;exact ⟨_,rfl,by have c:=l.cmp m;rw [c.1,c.2.1,c.2.2] at o;exact o⟩
end
section
variable {len off:Nat}
def bndZ (c:List Value)(p:Bool×Rat)(h:HF)(n:Nat):Prop:=∃b a l k d e f g,c=[jx p.1,jx b,gS a l k,jx d,gS e f g]∧IW h n b a l k p.2.num∧IW h n d e f g (denZ p.2)
theorem bndZ.kp:KP 5 bndZ:=⟨fun ⟨b,a,l,k,d,e,f,g,c,i,j⟩ t=>⟨b,a,l,k,d,e,f,g,c,i.t t,j.t t⟩,fun ⟨b,a,l,k,d,e,f,g,c,i,j⟩=>by subst c;exact ⟨rfl,rfl,rfl⟩⟩
def natP (c:List Value)(m:Nat)(_:HF)(_:Nat):Prop:=c=[gZ .i64 (m:Int)]
theorem natP.kp:KP 1 natP:=⟨fun e _=>e,fun e=>by cases e;exact ⟨rfl,rfl,rfl⟩⟩
def rwP (c:List Value)(r:Nat×List Int)(_:HF)(_:Nat):Prop:=c=[gS (some ⟨r.1,0,none⟩) (gP r.2) (gP r.2)]
theorem rwP.kp:KP 1 rwP:=⟨fun e _=>e,fun e=>by cases e;exact ⟨rfl,rfl,rfl⟩⟩
section
variable {P:List Value→D→HF→Nat→Prop}{lo n n':Nat}{h h':HF}{ds:List D}
theorem GR.rs (g:GR sz P lo h n e v ds):RS sz P h n v ds:=by
 obtain ⟨C,c,f,_⟩:=g;exact ⟨C,c.sl,f⟩
theorem GR.ext (g:GR sz P lo h n e v ds)(q:KP sz P)(x:Ext n h h')(p:n≤n'):GR sz P lo h' n' e v ds:=g.go q ⟨p,fun c i=>.inl (x c i)⟩ fun b f=>x b (g.bk b f).2.1
theorem GR.ty (g:GR sz P lo h n e v ds)(hb:BkOf v b):Ty1 h b e:=by
 obtain ⟨C,f,_,_⟩:=g;obtain ⟨o,l,c,rfl⟩:=hb;generalize (gP ds)=L at f;cases f with
 |at_ hg hlo hb hr hl ho=>exact ⟨_,hr⟩
end
theorem Ty1.eq {h:HF}{e e':TypeId}(x:Ty1 h b e)(y:Ty1 h b e'):e=e':=by
 obtain ⟨C,x⟩:=x;obtain ⟨c,y⟩:=y;rw [x] at y;cases y;rfl
section
variable {P:List Value→D→HF→Nat→Prop}{P':List Value→D'→HF→Nat→Prop}{n n':Nat}{h h':HF}{u:Value}{ds:List D}{ds':List D'}
theorem GR.ne (g:GR sz P l h n e v ds)(g':GR sz' P' l' h n e' u ds')(f:e≠e'):∀b,BkOf v b→¬BkOf u b:=fun b c i=>f ((g.ty c).eq (g'.ty i))
theorem GR.kb (g:GR sz P l h n e v ds)(p:KP sz P)(T:Tr n h n' h')(f:gro bs=false)(K:∀b,b<3*n→b≠bs→¬BkOf u b→h' b=h b)(i:∀b,BkOf v b→¬BkOf u b):GR sz P l h' n' e v ds:=
 g.go p T fun b c=>K b (g.bk b c).2.1 (fun e=>by have:=(g.bk b c).2.2.1;rw [e,f] at this;cases this) (i b c)
theorem GR.nbk (g:GR sz P l h n e v ds)(c:gro b=false):¬BkOf v b:=fun f=>by
 have:=(g.bk b f).2.2.1;rw [c] at this;cases this
end
structure Exo (n:Nat)(h h':HF):Prop where
 go:Ext n h h'
abbrev BS (h:HF)(n:Nat)(v:Value)(l:List (Bool×Rat)):Prop:=RS 5 bndZ h n v l
theorem BS.at {h:HF}{n:Nat}{a:Option Addr}{l:List (Bool×Rat)}{p:Bool×Rat}(r:BS h n (gS a len cap) l)(hj:l[j]?=some p):∃q off b s y k d e f g,a=some ⟨q,off,none⟩∧q<3*n∧j<len∧At h q (off+j*5) [jx p.1,jx b,gS s y k,jx d,gS e f g]∧IW h n b s y k p.2.num∧IW h n d e f g (denZ p.2):=by
 obtain ⟨q,off,c,B,C,F,G,_,b,s,y,k,d,e,f,g,rfl,i,j⟩:=RS.at' zd r hj;exact ⟨q,off,b,s,y,k,d,e,f,g,B,C,F,G,i,j⟩
theorem natS.at {h:HF}{n:Nat}{a:Option Addr}{l:List Nat}(r:RS 1 natP h n (gS a len cap) l)(hj:l[j]?=some m):∃f off,a=some ⟨f,off,none⟩∧f<3*n∧j<len∧At h f (off+j*1) [gZ .i64 (m:Int)]:=by
 obtain ⟨f,off,c,g,i,p,q,_,rfl⟩:=RS.at' zd r hj;exact ⟨f,off,g,i,p,q⟩
theorem rwS.at {h:HF}{n:Nat}{a:Option Addr}{l:List (Nat×List Int)}{m:Nat×List Int}(r:RS 1 rwP h n (gS a len cap) l)(hj:l[j]?=some m):∃f off,a=some ⟨f,off,none⟩∧f<3*n∧j<len∧At h f (off+j*1) [gS (some ⟨m.1,0,none⟩) (gP m.2) (gP m.2)]:=by
 obtain ⟨f,off,c,g,i,p,q,_,rfl⟩:=RS.at' zd r hj;exact ⟨f,off,g,i,p,q⟩
structure Sol where
 n:Nat
 sc:List Rat
 lo:List (Bool×Rat)
 hi:List (Bool×Rat)
 va:List Rat
 ba:List Nat
 nb:List Nat
 ta:List (Nat×List Int)
 den:Int
structure Adr where
 sc:Option Addr
 lo:Option Addr
 hi:Option Addr
 va:Option Addr
 ba:Option Addr
 nb:Option Addr
 ta:Option Addr
structure SM (l:Nat)(h:HF)(n bs:Nat)(d:Sol)(A:Adr):Prop where
 st:∃b a u c ty,h bs=some (.row [gZ .i64 (d.n:Int),gS A.sc (gP d.sc) (gP d.sc),gS A.lo (gP d.lo) (gP d.lo),gS A.hi (gP d.hi) (gP d.hi),gS A.va (gP d.va) (gP d.va),gS A.ba (gP d.ba) (gP d.ba),gS A.nb (gP d.nb) (gP d.nb),gS A.ta (gP d.ta) (gP d.ta),jx b,gS a u c] ty)∧IW h n b a u c d.den
 bs:bs<3*n∧gro bs=false
 sc:GR 4 ratP l h n 92 (gS A.sc (gP d.sc) (gP d.sc)) d.sc
 lo:GR 5 bndZ l h n 128 (gS A.lo (gP d.lo) (gP d.lo)) d.lo
 hi:GR 5 bndZ l h n 128 (gS A.hi (gP d.hi) (gP d.hi)) d.hi
 va:GR 4 ratP l h n 92 (gS A.va (gP d.va) (gP d.va)) d.va
 ba:GR 1 natP l h n 3 (gS A.ba (gP d.ba) (gP d.ba)) d.ba
 nb:GR 1 natP l h n 3 (gS A.nb (gP d.nb) (gP d.nb)) d.nb
 ta:GR 1 rwP l h n 90 (gS A.ta (gP d.ta) (gP d.ta)) d.ta
 rw:∀r∈d.ta,OZ h n r.1 r.2∧gro r.1=false
 dj:∀b,BkOf (gS A.va (gP d.va) (gP d.va)) b→¬BkOf (gS A.sc (gP d.sc) (gP d.sc)) b
section
variable {n n':Nat}{h h':HF}{d:Sol}{A:Adr}
theorem SM.ext (s:SM l h n bs d A)(x:Ext n h h')(f:n≤n'):SM l h' n' bs d A:=by
 obtain ⟨b,a,u,c,p,e,i⟩:=s.st;have:=s.bs;exact ⟨⟨b,a,u,c,p,(x _ s.bs.1).trans e,i.ext x f⟩,⟨zo,s.bs.2⟩,s.sc.ext ratP.kp x f,s.lo.ext bndZ.kp x f,s.hi.ext bndZ.kp x f,s.va.ext ratP.kp x f,s.ba.ext natP.kp x f,s.nb.ext natP.kp x f,s.ta.ext rwP.kp x f,fun r g=>⟨(s.rw r g).1.ext intP.kp x f,(s.rw r g).2⟩,s.dj⟩
theorem SM.x (s:SM l h n bs d A)(t:Tx n h n' h'):SM l h' n' bs d A:=s.ext t.2 t.1
theorem SM.mv (s:SM l h n bs d A){p:Nat}(H:A.va=some ⟨p,0,none⟩)(S:Sto p h h')(J:gP va=gP d.va)(o:GR 4 ratP l h' n 92 (gS A.va (gP va) (gP va)) va):SM l h' n bs {d with va:=va} A:=by
 obtain ⟨b,a,u,c,G,e,i⟩:=s.st;have y:BkOf (gS A.va (gP d.va) (gP d.va)) p:=⟨_,_,_,by rw [H]⟩;have L:=s.va.ty y;have C:=(s.va.bk p y).2.2.1;have T:Tr n h n h':=Tr.s S (Tr.refl _ _);have k:∀{sz:Nat} {D:Type} {P:List Value→D→HF→Nat→Prop} {ds:List D} {v:Value} {e:TypeId},GR sz P l h n e v ds→e≠92→∀b,BkOf v b→h' b=h b:=fun g I b q=>S.1 b fun f=>I ((f▸g.ty q).eq L);refine ⟨⟨b,a,u,c,G,?_,i.t T⟩,s.bs,s.sc.go ratP.kp T fun b q=>S.1 b fun f=>s.dj p y (f▸q),s.lo.go bndZ.kp T (k s.lo zd),s.hi.go bndZ.kp T (k s.hi zd),o,s.ba.go natP.kp T (k s.ba zd),s.nb.go natP.kp T (k s.nb zd),s.ta.go rwP.kp T (k s.ta zd),fun r B=>⟨(s.rw r B).1.go intP.kp T (S.1 _ fun f=>by have:=(s.rw r B).2;rw [f,C] at this;cases this),(s.rw r B).2⟩,fun b q=>?_⟩
 ·have F:bs≠p:=fun f=>by have:=s.bs.2;rw [f,C] at this;cases this
  show h' bs=some (.row [_,_,_,_,gS A.va (gP va) (gP va),_,_,_,_,_] G);rw [J,S.1 bs F];exact e
 obtain ⟨K,l',M,f⟩:=q;injection f with f
 exact s.dj b ⟨K,_,_,by rw [f]⟩
end
section
variable {h:HF}{n:Nat}
theorem sZw {D:Type}{sz:Nat}{P:List Value→D→HF→Nat→Prop}{ty:TypeId}{a x:Operand}{zs:List D}{q:D}(c:List Value)(B:OR sz P h n b zs)(y:KP sz P)(hj:j<zs.length)(g:off=j*sz)(p:P c q h n)(k:∀h',OR sz P h' n b (zs.set j q)→Sto b h h'→(∀e,Ty1 h b e→Ty1 h' b e)→EO X ops r ⟨t,h',n,addW n0 [b] w⟩ Q)(K:zh ops t o=true:=by exact rfl)(hd:o.dst=none:=by exact rfl)(ho:o.op=.store ty a x:=by exact rfl)(hi:X.E.inf ty=some (sz,bt,z):=by exact rfl)(ha:evF t a=.pointer (some ⟨b,off,none⟩):=by exact rfl)(hx:zn (evF t x)=c:=by exact rfl)(hX:X.n0=n0:=by exact rfl):EO X ops (o::r) ⟨t,h,n,w⟩ Q:=by
 have F:=B;obtain ⟨R,C,e,i,S,L⟩:=B;have J:=L.len;obtain ⟨G,O,H⟩:=y.c p;have M:j*sz+sz≤zs.length*sz:=by
  have:=Nat.mul_le_mul_right sz (show j+1≤zs.length from hj);rw [Nat.add_mul,Nat.one_mul] at this;exact this
 subst g;rw [rS K (by rw [hd];rfl) (by rw [ho];rfl) (by rw [ho];exact xn hi ha (by rw [hx];exact G) (by rw [hx];exact H) i zo),hd,hx,hX];have s:=F.set (h':=upd h b (some (.row (zu C (j*sz) c) e))) y i hj p (zg _ _ _) (fun c I=>zm I);exact k _ s.1 s.2 fun e' ⟨N,f⟩=>by
  rw [i] at f;cases f;exact ⟨_,zg _ _ _⟩
theorem sZt {D:Type}{sz:Nat}{P:List Value→D→HF→Nat→Prop}{ty:TypeId}{a x:Operand}{zs:List D}{q:D}(c:List Value)(B:OR sz P h n b zs)(s:KP sz P)(hj:j<zs.length)(g:off=j*sz)(p:P c q h n)(f:3*n0≤b)(k:∀h',OR sz P h' n b (zs.set j q)→Sto b h h'→(∀e,Ty1 h b e→Ty1 h' b e)→EO X ops r ⟨t,h',n,w⟩ Q)(i:zh ops t o=true:=by exact rfl)(hd:o.dst=none:=by exact rfl)(ho:o.op=.store ty a x:=by exact rfl)(hi:X.E.inf ty=some (sz,bt,z):=by exact rfl)(ha:evF t a=.pointer (some ⟨b,off,none⟩):=by exact rfl)(hx:zn (evF t x)=c:=by exact rfl)(hX:X.n0=n0:=by exact rfl):EO X ops (o::r) ⟨t,h,n,w⟩ Q:=
 sZw c B s hj g p (fun h' y C e'=>by rw [wD f];exact k h' y C e') i hd ho hi ha hx hX
end
structure SZ (d:Sol)(a:Nat):Prop where
 va:∀q∈d.va,Sz a q
 lo:∀q∈d.lo,Sz a q.2
 hi:∀q∈d.hi,Sz a q.2
 ll:gP d.lo=gP d.va
 lh:gP d.hi=gP d.va
 ls:gP d.sc=gP d.va
 nb:∀v∈d.nb,v<gP d.va
 ln:gP d.nb<1000
 lt:gP d.ta<1000
theorem negQ (k:Nat){h:HF}{n:Nat}{x:Rat}(q:IW h n sx ax lx cx x.num)(s:IW h n dx ex fx gx (denZ x)):CX (cal (k+3)) 177 [.agg #[jx sx,gS ax lx cx,jx dx,gS ex fx gx]] h n (QV (-x)):=by
 refine zw (fn:=Tryz.f177) R4 ?_;refine zG ?_;refine sB [jx sx,gS ax lx cx,jx dx,gS ex fx gx] ?_;intro h1 G J;refine sA ?_;intro h2 H K;refine zG ?_;refine zl [0,1,3,0,8,31,63] rfl ?_;refine zH ?_;refine dC (negX _ (q.x zx)) ?_;rintro _ y C ⟨f,c,i,g,rfl,p⟩ M L;refine zH ?_;refine dT #[jx f,gS c i g,jx dx,gS ex fx gx] ?_;refine dS [jx f,gS c i g,jx dx,gS ex fx gx] ?_;intro B I F;refine zq ?_;exact ⟨_,_,_,_,_,_,_,_,rfl,(p.t zt).as (by rw [Rat.neg_num]),(s.t zt).as (by unfold denZ;rw [Rat.neg_den])⟩
theorem subQ (k:Nat){h:HF}{n:Nat}{x:Rat}{y:Rat}(g:GG h n)(J:IW h n sx ax lx cx x.num)(M:IW h n dx ex fx gx (denZ x))(K:IW h n sy ay ly cy y.num)(N:IW h n dy ey fy gy (denZ y))(hx:Sz a x)(H:Sz b y)(c:a+b+1≤2496):CX (cal (k+10)) 139 [.agg #[jx sx,gS ax lx cx,jx dx,gS ex fx gx],.agg #[jx sy,gS ay ly cy,jx dy,gS ey fy gy]] h n (QV (x-y)):=by
 refine zw (fn:=Tryz.f139) R4 ?_;refine zG ?_;refine sB [jx sx,gS ax lx cx,jx dx,gS ex fx gx] ?_;intro h1 p1 x1;refine sB [jx sy,gS ay ly cy,jx dy,gS ey fy gy] ?_;intro h2 p2 x2;refine sA ?_;intro Z p3 x3;refine zG ?_;refine zl [0,0,2,7,15] rfl ?_;refine zH ?_;refine dC (negQ _ (K.x zx) (N.x zx)) ?_;rintro _ h4 n4 ⟨S,R,l4,T,U,V,W,Y,rfl,I,L⟩ y4 x4;refine dC (addQ _ (g.x zx) (J.x zx) (M.x zx) I L hx H.neg c) ?_;rintro _ h5 n5 ⟨q,p,O,s,B,C,F,G,rfl,f,i⟩ y5 x5;refine dS [jx q,gS p O s,jx B,gS C F G] ?_;intro h6 p6 o6;refine zq ?_;rw [←Rat.sub_eq_add_neg] at f i;exact ⟨_,_,_,_,_,_,_,_,rfl,f.t zt,i.t zt⟩
end
section
variable {h:HF}{n:Nat}
theorem pt {x y:Int}(a:0<y):(AK x y).num=x.tdiv ((rp x.natAbs y.natAbs:Nat):Int)∧((AK x y).den:Int)=y.tdiv ((rp x.natAbs y.natAbs:Nat):Int):=by
 obtain ⟨d,rfl⟩:∃d:Nat,y=(d:Int):=⟨y.toNat,zo⟩;exact pd x zo
theorem znl {x y:Int}:AK x y=AK (-x) (-y):=by rw [Rat.neg_divInt_neg]
theorem iM {x y:Int}(a:y<0):(AK x y).num=(-x).tdiv ((rp (-x).natAbs (-y).natAbs:Nat):Int)∧((AK x y).den:Int)=(-y).tdiv ((rp (-x).natAbs (-y).natAbs:Nat):Int):=by
 rw [znl];exact pt zo
theorem tV {x y:Int}(b:0<y)(a:((rp x.natAbs y.natAbs:Nat):Int)=1):(AK x y).num=x∧((AK x y).den:Int)=y:=by
 have h:=pt (x:=x) b;rw [a,C7,C7] at h;exact h
theorem qZ {x y:Int}(b:y<0)(a:((rp (-x).natAbs (-y).natAbs:Nat):Int)=1):(AK x y).num= -x∧((AK x y).den:Int)= -y:=by
 rw [znl];exact tV zo a
theorem ze2 {x y:Int}(a:y=1):(AK x y).num=x∧denZ (AK x y)=0:=by
 have h:=tV (x:=x) (y:=y) zo (by rw [a];simp);exact ⟨h.1,yr.2 (by have:=h.2;omega)⟩
theorem zil {x y:Int}(a: -y=1):(AK x y).num= -x∧denZ (AK x y)=0:=by
 rw [znl];exact ze2 a
theorem iL (k:Nat){x:Int}{y:Int}(g:GG h n)(f:IW h n sx ax lx cx x)(b:IW h n sy ay ly cy y)(hx:x.natAbs<BW)(hy:y.natAbs<BW)(c:y≠0):CX (cal (k+10)) 97 [.agg #[jx sx,gS ax lx cx],.agg #[jx sy,gS ay ly cy]] h n (QV (AK x y)):=by
 have d6:(-x).natAbs<BW:=by rw [AM];exact hx
 have aw:(-y).natAbs<BW:=by rw [AM];exact hy
 have d4:((rp (-x).natAbs (-y).natAbs:Nat):Int).natAbs<BW:=zsf aw zo;have d5:((rp x.natAbs y.natAbs:Nat):Int).natAbs<BW:=zsf hy c;have bq:((rp (-x).natAbs (-y).natAbs:Nat):Int)≠0:=zsg zo;have br:((rp x.natAbs y.natAbs:Nat):Int)≠0:=zsg c;refine zw (fn:=Tryz.f97) R4 ?_;refine zG ?_;refine sB [jx sx,gS ax lx cx] ?_;intro bz e7 es;refine sB [jx sy,gS ay ly cy] ?_;intro c0 e8 et;refine sA ?_;intro c1 e9 eu;refine zG ?_;refine sC (yK _ (b.t zt)) ?_;rintro _ c2 d7 ⟨bs,rfl,v⟩ fh ev;rcases bvs v with ⟨rfl,u⟩|⟨rfl,u⟩
 ·refine zG ?_;refine sC (yK _ (f.t zt)) ?_;rintro _ c3 d8 ⟨bt,rfl,w⟩ fi ew;rcases bvs w with ⟨rfl,s⟩|⟨rfl,s⟩
  ·refine zG ?_;refine sC (zav _ (b.t zt)) ?_;rintro _ c4 d9 ⟨er,rfl,a⟩ fj ey;rcases a with ⟨rfl,a⟩|⟨rfl,a⟩|⟨rfl,a⟩
   ·refine zG ?_;refine zl [0,1,0,7,15,31] rfl ?_;refine zH ?_;refine dC (negX _ (f.t zt)) ?_;rintro _ c5 da ⟨j,i,p,l,rfl,d⟩ fk ez;refine zH ?_;refine dC (negX _ (b.t zt)) ?_;rintro _ c6 db ⟨R,F,bb,a3,rfl,e⟩ fl f0;refine dS [jx j,gS i p l] ?_;intro c7 ea dr;refine dS [jx R,gS F bb a3] ?_;intro c8 eb ds;refine zG ?_;refine sC (tU _ (e.t zt)) ?_;rintro _ c9 dc ⟨bu,rfl,A⟩ fm f1;rcases bvs A with ⟨rfl,bm⟩|⟨rfl,bm⟩
    ·refine zG ?_;refine sC (gcdX _ (g.t zt) (d.t zt) (e.t zt) szB szB) ?_;rintro _ ca dd ⟨S,G,bc,a4,rfl,m⟩ fo f2;refine sA ?_;intro cb ec f3;refine sS [jx S,gS G bc a4] ?_;intro cc ed dt;refine zG ?_;refine sC (tU _ (m.t zt)) ?_;rintro _ cd de ⟨bv,rfl,B⟩ fp f4;rcases bvs B with ⟨rfl,bn⟩|⟨rfl,bn⟩
     ·refine zG ?_;refine zl [0,0,3,0,0,31,63,127] rfl ?_;refine zH ?_;refine dC (quoX _ (d.t zt) (m.t zt) szB szB szN) ?_;rintro _ ce df ⟨T,H,bd,a5,rfl,az⟩ fq f5;refine zH ?_;refine dC (quoX _ (e.t zt) (m.t zt) szB szB szN) ?_;rintro _ cf dg ⟨U,I,be,a6,rfl,b0⟩ fr f6;refine dS [jx T,gS H bd a5] ?_;intro cg ee du;refine dS [jx U,gS I be a6] ?_;intro ch ef dv;refine zG ?_;refine sC (vE _ (az.t zt) (b0.t zt) (q:=AK x y) (by first|exact (pt zo).1|exact (iM zo).1|exact (tV zo ‹_›).1|exact (qZ zo ‹_›).1) (by first|exact (pt zo).2|exact (iM zo).2|exact (tV zo ‹_›).2|exact (qZ zo ‹_›).2)) ?_;rintro _ ci dh ⟨V,J,bf,a7,ae,ai,am,aq,rfl,b1,b7⟩ fs f7;refine sS [jx V,gS J bf a7,jx ae,gS ai am aq] ?_;intro cj eg dw;refine zq ?_;exact ⟨_,_,_,_,_,_,_,_,rfl,(b1.t zt),(b7.t zt)⟩
     refine zG ?_;refine sC (vE _ (d.t zt) (e.t zt) (q:=AK x y) (by first|exact (pt zo).1|exact (iM zo).1|exact (tV zo ‹_›).1|exact (qZ zo ‹_›).1) (by first|exact (pt zo).2|exact (iM zo).2|exact (tV zo ‹_›).2|exact (qZ zo ‹_›).2)) ?_;rintro _ ck di ⟨W,K,bg,a8,af,aj,an,ar,rfl,b2,b8⟩ ft f8;refine sS [jx W,gS K bg a8,jx af,gS aj an ar] ?_;intro cl eh dy;refine zq ?_;exact ⟨_,_,_,_,_,_,_,_,rfl,(b2.t zt),(b8.t zt)⟩
    refine zG ?_;refine sT #[jx j,gS i p l,jx false,gS none 0 0] ?_;refine sS [jx j,gS i p l,jx false,gS none 0 0] ?_;intro cm ei dz;refine zq ?_;exact ⟨_,_,_,_,_,_,_,_,rfl,(d.t zt).as ((by first|exact (ze2 ‹_›).1.symm|exact (zil ‹_›).1.symm)),(IW.zero _ _).as ((by first|exact (ze2 ‹_›).2.symm|exact (zil ‹_›).2.symm))⟩
   ·exact eN a c
   refine zG ?_;refine sC (tU _ (b.t zt)) ?_;rintro _ cn dj ⟨bw,rfl,C⟩ fu f9;rcases bvs C with ⟨rfl,bo⟩|⟨rfl,bo⟩
   ·refine zG ?_;refine sC (gcdX _ (g.t zt) (f.t zt) (b.t zt) szB szB) ?_;rintro _ co dk ⟨Y,L,bh,a9,rfl,o⟩ fv fa;refine sA ?_;intro cp ej fb;refine sS [jx Y,gS L bh a9] ?_;intro cq ek e0;refine zG ?_;refine sC (tU _ (o.t zt)) ?_;rintro _ cr dl ⟨bx,rfl,D⟩ fw fc;rcases bvs D with ⟨rfl,bp⟩|⟨rfl,bp⟩
    ·refine zG ?_;refine zl [0,0,3,0,0,31,63,127] rfl ?_;refine zH ?_;refine dC (quoX _ (f.t zt) (o.t zt) szB szB szN) ?_;rintro _ cs dm ⟨Z,M,bi,aa,rfl,b3⟩ fy fd;refine zH ?_;refine dC (quoX _ (b.t zt) (o.t zt) szB szB szN) ?_;rintro _ ct dn ⟨a0,N,bj,ab,rfl,b4⟩ fz fe;refine dS [jx Z,gS M bi aa] ?_;intro cu el e1;refine dS [jx a0,gS N bj ab] ?_;intro cv em e2;refine zG ?_;refine sC (vE _ (b3.t zt) (b4.t zt) (q:=AK x y) (by first|exact (pt zo).1|exact (iM zo).1|exact (tV zo ‹_›).1|exact (qZ zo ‹_›).1) (by first|exact (pt zo).2|exact (iM zo).2|exact (tV zo ‹_›).2|exact (qZ zo ‹_›).2)) ?_;rintro _ cw dp ⟨a1,O,bk,ac,ag,ak,ao,au,rfl,b5,b9⟩ g0 ff;refine sS [jx a1,gS O bk ac,jx ag,gS ak ao au] ?_;intro cz en e3;refine zq ?_;exact ⟨_,_,_,_,_,_,_,_,rfl,(b5.t zt),(b9.t zt)⟩
    refine zG ?_;refine sC (vE _ (f.t zt) (b.t zt) (q:=AK x y) (by first|exact (pt zo).1|exact (iM zo).1|exact (tV zo ‹_›).1|exact (qZ zo ‹_›).1) (by first|exact (pt zo).2|exact (iM zo).2|exact (tV zo ‹_›).2|exact (qZ zo ‹_›).2)) ?_;rintro _ d0 dq ⟨a2,P,bl,ad,ah,al,ap,av,rfl,b6,ba⟩ g1 fg;refine sS [jx a2,gS P bl ad,jx ah,gS al ap av] ?_;intro d1 eo e4;refine zq ?_;exact ⟨_,_,_,_,_,_,_,_,rfl,(b6.t zt),(ba.t zt)⟩
   refine zG ?_;refine sT #[jx sx,gS ax lx cx,jx false,gS none 0 0] ?_;refine sS [jx sx,gS ax lx cx,jx false,gS none 0 0] ?_;intro d2 ep e5;refine zq ?_;exact ⟨_,_,_,_,_,_,_,_,rfl,(f.t zt).as ((by first|exact (ze2 ‹_›).1.symm|exact (zil ‹_›).1.symm)),(IW.zero _ _).as ((by first|exact (ze2 ‹_›).2.symm|exact (zil ‹_›).2.symm))⟩
  refine zG ?_;refine sT #[jx false,gS none 0 0,jx false,gS none 0 0] ?_;refine sS [jx false,gS none 0 0,jx false,gS none 0 0] ?_;intro d3 eq e6;refine zq ?_;exact ⟨_,_,_,_,_,_,_,_,rfl,(IW.zero _ _).as (by rw [s,Ht];rfl),(IW.zero _ _).as (by rw [s,Ht];rfl)⟩
 exact eN u c
theorem zmi (k:Nat){x:Rat}{y:Int}(o:IW h n sx ax lx cx x.num)(q:IW h n dx ex fx gx (denZ x))(p:IW h n sy ay ly cy y)(hx:x.num.natAbs<BW)(M:(denZ x).natAbs<BW)(hy:y.natAbs<BW):CX (cal (k+9)) 94 [.agg #[jx sx,gS ax lx cx,jx dx,gS ex fx gx],.agg #[jx sy,gS ay ly cy]] h n (IV (x.num*y.tdiv (x.den:Int))):=by
 refine zw (fn:=Tryz.f94) R4 ?_;refine zG ?_;refine sB [jx sx,gS ax lx cx,jx dx,gS ex fx gx] ?_;intro C V a1;refine sB [jx sy,gS ay ly cy] ?_;intro D W a2;refine sA ?_;intro F Y a3;refine zG ?_;refine sC (yK _ (q.t zt)) ?_;rintro _ G O ⟨w,rfl,b⟩ a8 a4;rcases bvs b with ⟨rfl,a⟩|⟨rfl,a⟩
 ·refine zG ?_;refine zl [0,1,0,0,8,28,63,127] rfl ?_;refine zH ?_;refine dC (quoX _ (p.t zt) (q.t zt) szB szB szN) ?_;rintro _ H P ⟨A,v,N,B,rfl,j⟩ a9 a5;refine dC (mulX _ (o.t zt) j szB szB) ?_;rintro _ I R ⟨e,c,s,g,rfl,l⟩ aa a6;refine dS [jx e,gS c s g] ?_;intro J Z T;refine zq ?_;exact ⟨_,_,_,_,rfl,(l.t zt).as (by rw [wq a])⟩
 refine zG ?_;refine sC (mulX _ (o.t zt) (p.t zt) szB szB) ?_;rintro _ K S ⟨f,d,u,i,rfl,m⟩ ab a7;refine sS [jx f,gS d u i] ?_;intro L a0 U;refine zq ?_;exact ⟨_,_,_,_,rfl,(m.t zt).as (by rw [show (x.den:Int)=1 from by have:=yr.1 a;omega,C7])⟩
end
section
variable {n:Nat}{h:HF}
theorem zng {x:Rat}(h:x.num<0):(x⁻¹).num= -((x.den:Int))∧((x⁻¹).den:Int)= -x.num:=by
 rw [Rat.num_inv,Hl,Int.sign_eq_neg_one_of_neg h,eP zo];omega
theorem znf {x:Rat}(h:0<x.num):(x⁻¹).num=(x.den:Int)∧((x⁻¹).den:Int)=x.num:=by
 rw [Rat.num_inv,Hl,Int.sign_eq_one_of_pos h,eP zo];omega
theorem zp8 {x:Rat}(h:x.num=0):x⁻¹ =0:=by rw [Rat.num_eq_zero.1 h,Rat.inv_zero]
theorem Sz.inv {x:Rat}(h:Sz m x):Sz m x⁻¹ :=by
 have d:=x.den_pos;refine ⟨?_,?_⟩
 ·rcases DH x.num 0 with c|c|c
  ·rw [(zng c).1,AM,qe];exact h.2
  ·rw [zp8 c];exact Aj gH h.2
  rw [(znf c).1,qe];exact h.2
 rw [Hl];split
 ·exact Aj d h.2
 exact h.1
theorem Sz.div {x y:Rat}(hx:Sz a x)(c:Sz b y):Sz (a+b) (x/y):=by
 rw [DO];exact hx.mul c.inv
theorem invQ (k:Nat){x:Rat}(d:IW h n sx ax lx cx x.num)(K:IW h n dx ex fx gx (denZ x)):CX (cal (k+4)) 98 [.agg #[jx sx,gS ax lx cx,jx dx,gS ex fx gx]] h n (QV x⁻¹):=by
 refine zw (fn:=Tryz.f98) R4 ?_;refine zG ?_;refine sB [jx sx,gS ax lx cx,jx dx,gS ex fx gx] ?_;intro a1 ar b1;refine sA ?_;intro a2 au b2;refine zG ?_;refine sC (zav _ (d.t zt)) ?_;rintro _ a3 ah ⟨b0,rfl,c⟩ ba b3;rcases c with ⟨rfl,c⟩|⟨rfl,c⟩|⟨rfl,c⟩
 ·refine zG ?_;refine zl [0,1,3,0,8,31,63,127] rfl ?_;refine zH ?_;refine dC (denQ _ (d.t zt) (K.t zt)) ?_;rintro _ a4 ai ⟨S,N,ad,W,rfl,B⟩ bb b4;refine dC (negX _ B) ?_;rintro _ a5 aj ⟨T,O,ae,Y,rfl,C⟩ bc b5;refine zH ?_;refine dC (negX _ (d.t zt)) ?_;rintro _ a6 ak ⟨U,P,af,Z,rfl,D⟩ bd b6;refine dC (vE _ (C.t zt) D (q:=x⁻¹) (zng c).1 (zng c).2) ?_;rintro _ a7 al ⟨g,e,L,j,o,s,v,y,rfl,F,I⟩ be b7;refine dS [jx g,gS e L j,jx o,gS s v y] ?_;intro a8 av ao;refine zq ?_;exact ⟨_,_,_,_,_,_,_,_,rfl,(F.t zt),(I.t zt)⟩
 ·refine zG ?_;refine sT #[jx false,gS none 0 0,jx false,gS none 0 0] ?_;refine sS [jx false,gS none 0 0,jx false,gS none 0 0] ?_;intro a9 aw ap;refine zq ?_;exact (show x⁻¹ =0 from zp8 c)▸QV.zero _ _
 refine zG ?_;refine zl [0,1,0,4,15,31] rfl ?_;refine zH ?_;refine dC (denQ _ (d.t zt) (K.t zt)) ?_;rintro _ aa am ⟨V,R,ag,a0,rfl,G⟩ bf b8;refine zH ?_;refine dC (vE _ G (d.t zt) (q:=x⁻¹) (znf c).1 (znf c).2) ?_;rintro _ ab an ⟨i,f,M,l,p,u,w,A,rfl,H,J⟩ bg b9;refine dS [jx i,gS f M l,jx p,gS u w A] ?_;intro ac az aq;refine zq ?_;exact ⟨_,_,_,_,_,_,_,_,rfl,(H.t zt),(J.t zt)⟩
theorem divQ (k:Nat){x:Rat}{y:Rat}(g:GG h n)(A:IW h n sx ax lx cx x.num)(C:IW h n dx ex fx gx (denZ x))(B:IW h n sy ay ly cy y.num)(D:IW h n dy ey fy gy (denZ y))(hx:Sz a x)(w:Sz b y)(o:a+b≤2496):CX (cal (k+11)) 44 [.agg #[jx sx,gS ax lx cx,jx dx,gS ex fx gx],.agg #[jx sy,gS ay ly cy,jx dy,gS ey fy gy]] h n (QV (x/y)):=by
 refine zw (fn:=Tryz.f44) R4 ?_;refine zG ?_;refine sB [jx sx,gS ax lx cx,jx dx,gS ex fx gx] ?_;intro M Y a2;refine sB [jx sy,gS ay ly cy,jx dy,gS ey fy gy] ?_;intro N Z a3;refine sA ?_;intro O a0 a4;refine zG ?_;refine zl [0,0,2,7,15] rfl ?_;refine zH ?_;refine dC (invQ _ (B.t zt) (D.t zt)) ?_;rintro _ P U ⟨G,F,T,H,I,J,K,L,rfl,p,s⟩ a7 a5;refine dC (mulQ _ (g.t zt) (A.t zt) (C.t zt) p s hx w.inv o) ?_;rintro _ R V ⟨d,c,v,e,f,i,j,l,rfl,q,u⟩ a8 a6;refine dS [jx d,gS c v e,jx f,gS i j l] ?_;intro S a1 W;refine zq ?_;exact ⟨_,_,_,_,_,_,_,_,rfl,(q.t zt).as (by rw [DO]),(u.t zt).as (by rw [DO])⟩
end
section
variable {up:Bool}
section
variable {n:Nat}{h:HF}{d:Sol}{A:Adr}
theorem aG (k:Nat)(s:SM l h n bs d A){v:Nat}{x:Rat}{p:Bool×Rat}(hv:d.va[v]?=some x)(hu:d.hi[v]?=some p)(F:Sz a x)(G:Sz b p.2)(f:a+b≤2496):CX (cal (k+7)) 87 [mo (some ⟨bs,0,none⟩),gZ .i64 (v:Int)] h n (BV (p.1=false∨x<p.2)):=by
 obtain ⟨M,J,u0,P,ty,st,i0⟩:=s.st;have I:=s.bs.1;obtain ⟨k1,o1,N,K,l1,R,T,V,Y,g1,e,g,m,o,u,y⟩:=BS.at s.hi.rs hu;obtain ⟨k2,o2,O,L,l2,S,U,W,Z,g2,q,C,D,H,w,B⟩:=QS.at s.va.rs hv;refine VF.cx (zO (fn:=Tryz.f87) R4 ?_);refine zG ?_;refine zl [0,1,3,7,0,31,63,127,255,511,1023,2047,4095,8191,1023,32767,65535,1023,132095,394239,918527,1023,4064255,8258559,16647167,33554431,67108863,134217727,268435455] rfl ?_;refine zH ?_;refine dI e m ?_;refine zH ?_;refine dL o g 0 ?_;obtain ⟨x0,y0⟩:=p;cases x0
 ·refine zH ?_;refine zf ?_;exact zye (.inl (by trivial))
 refine zH ?_;refine dI q D ?_;refine dL H C 0 ?_;refine zH ?_;refine dI e m ?_;refine zH ?_;refine dL o g 1 ?_;refine dC (xp _ w B u y F G f).cx ?_;rintro _ h3 n3 ⟨s3,rfl,c⟩ y3 x3;rcases c with ⟨rfl,c⟩|⟨rfl,c⟩|⟨rfl,c⟩
 ·refine zH ?_;refine zf ?_;exact zye (.inr c)
 ·refine zH ?_;refine zf ?_;exact zno (fun h=>h.elim (fun h=>by cases h) fun h=>Ca (c▸h))
 refine zH ?_;refine zf ?_;exact zno (fun h=>h.elim (fun h=>by cases h) fun h=>CV.2 (Bc c) h)
theorem lg (k:Nat)(s:SM l h n bs d A){v:Nat}{x:Rat}{p:Bool×Rat}(hv:d.va[v]?=some x)(hu:d.lo[v]?=some p)(F:Sz a x)(G:Sz b p.2)(f:a+b≤2496):CX (cal (k+7)) 88 [mo (some ⟨bs,0,none⟩),gZ .i64 (v:Int)] h n (BV (p.1=false∨p.2<x)):=by
 obtain ⟨M,J,u0,P,ty,st,i0⟩:=s.st;have I:=s.bs.1;obtain ⟨k1,o1,N,K,l1,R,T,V,Y,g1,e,g,m,o,u,y⟩:=BS.at s.lo.rs hu;obtain ⟨k2,o2,O,L,l2,S,U,W,Z,g2,q,C,D,H,w,B⟩:=QS.at s.va.rs hv;refine VF.cx (zO (fn:=Tryz.f88) R4 ?_);refine zG ?_;refine zl [0,1,3,7,0,31,63,127,255,511,1023,2047,4095,8191,1023,32767,65535,1023,132095,394239,918527,1023,4064255,8258559,16647167,33554431,67108863,134217727,268435455] rfl ?_;refine zH ?_;refine dI e m ?_;refine zH ?_;refine dL o g 0 ?_;obtain ⟨x0,y0⟩:=p;cases x0
 ·refine zH ?_;refine zf ?_;exact zye (.inl (by trivial))
 refine zH ?_;refine dI q D ?_;refine dL H C 0 ?_;refine zH ?_;refine dI e m ?_;refine zH ?_;refine dL o g 1 ?_;refine dC (xp _ w B u y F G f).cx ?_;rintro _ h3 n3 ⟨s3,rfl,c⟩ y3 x3;rcases c with ⟨rfl,c⟩|⟨rfl,c⟩|⟨rfl,c⟩
 ·refine zH ?_;refine zf ?_;exact zno (fun h=>h.elim (fun h=>by cases h) fun h=>CV.2 (Bc c) h)
 ·refine zH ?_;refine zf ?_;exact zno (fun h=>h.elim (fun h=>by cases h) fun h=>Ca (c▸h))
 refine zH ?_;refine zf ?_;exact zye (.inr c)
def qd (x:Rat)(p q:Bool×Rat)(up:Bool):Bool×Rat:=if up then (q.1,q.2-x) else (p.1,x-p.2)
theorem zpg (k:Nat)(g:GG h n)(s:SM l h n bs d A){v:Nat}{x:Rat}{p q:Bool×Rat}(hv:d.va[v]?=some x)(hp:d.lo[v]?=some p)(hq:d.hi[v]?=some q)(V:Sz a x)(sp:Sz b p.2)(sq:Sz b q.2)(a4:a+b+1≤2496){r:Int}(hr:up=true↔0<r):CX (cal (k+11)) 144 [mo (some ⟨bs,0,none⟩),gZ .i64 (v:Int),gZ .i64 r] h n fun w K R=>∃b a l c d e f g,w=.tuple #[.agg #[jx b,gS a l c,jx d,gS e f g],jx (qd x p q up).1]∧IW K R b a l c (qd x p q up).2.num∧IW K R d e f g (denZ (qd x p q up).2):=by
 obtain ⟨b0,a0,u0,c0,ty,st,i0⟩:=s.st;have a6:=s.bs.1;obtain ⟨k1,o1,b1,a1,l1,c1,d1,e1,f1,g1,I,O,T,Y,iu,ju⟩:=BS.at s.hi.rs hq;obtain ⟨k3,o3,b3,a3,l3,c3,d3,e3,f3,g3,H,N,S,W,ip,jp⟩:=BS.at s.lo.rs hp;obtain ⟨k2,o2,b2,a2,l2,c2,d2,e2,f2,g2,J,P,U,Z,L,M⟩:=QS.at s.va.rs hv;refine zw (fn:=Tryz.f144) R4 ?_;refine Zi ?_;intro h4 p4 x4;refine zG ?_;by_cases h0:0<r
 ·obtain rfl:up=true:=hr.2 h0;refine zG ?_;refine zl [0,1,3,7,0,31,63,127,0,256,768,1792,0,7936,16128,32767,0,65536,196608,458752,0,2031616,4128768,8323072,65535,33554431] rfl ?_;refine zH ?_;refine dI I T ?_;refine zH ?_;refine dL Y O 1 ?_;refine zH ?_;refine dI J U ?_;refine dL Z P 0 ?_;refine dC (subQ _ (g.x zx) (iu.x zx) (ju.x zx) (L.x zx) (M.x zx) sq V zo) ?_;rintro _ h5 n5 ⟨o,m,l5,u,y,B,C,D,rfl,F,G⟩ y5 x5;refine zH ?_;refine dI I T ?_;refine zH ?_;refine dL Y O 0 ?_;refine dS [jx o,gS m l5 u,jx y,gS B C D] ?_;intro h6 p6 o6;refine zq ?_;exact ⟨_,_,_,_,_,_,_,_,rfl,F.t zt,G.t zt⟩
 obtain rfl:up=false:=by cases up;rfl;exact eN (hr.1 rfl) h0
 refine zG ?_;refine zl [0,1,3,7,0,31,63,0,128,384,896,0,3968,8064,16256,32767,0,65536,196608,458752,0,2031616,4128768,8323072,65535,33554431] rfl ?_;refine zH ?_;refine dI J U ?_;refine dL Z P 0 ?_;refine zH ?_;refine dI H S ?_;refine zH ?_;refine dL W N 1 ?_;refine dC (subQ _ (g.x zx) (L.x zx) (M.x zx) (ip.x zx) (jp.x zx) V sp zo) ?_;rintro _ h5 n5 ⟨o,m,l5,u,y,B,C,D,rfl,F,G⟩ y5 x5;refine zH ?_;refine dI H S ?_;refine zH ?_;refine dL W N 0 ?_;refine dS [jx o,gS m l5 u,jx y,gS B C D] ?_;intro h6 p6 o6;refine zq ?_;exact ⟨_,_,_,_,_,_,_,_,rfl,F.t zt,G.t zt⟩
theorem zbz (k:Nat)(g:GG h n)(s:SM l h n bs d A){r:Nat×List Int}{z:Int}(hi:d.ta[i]?=some r)(hj:r.2[j]?=some z)(w:z.natAbs<BW)(hd:d.den.natAbs<BW)(h0:d.den≠0):CX (cal (k+11)) 43 [mo (some ⟨bs,0,none⟩),gZ .i64 (i:Int),gZ .i64 (j:Int)] h n (QV (AK z d.den)):=by
 obtain ⟨N,L,u0,P,ty,st,i0⟩:=s.st;have K:=s.bs.1;obtain ⟨U,W,p,D,G,I⟩:=rwS.at s.ta.rs hi;obtain ⟨zr,_⟩:=s.rw r (mp hi);obtain ⟨f,⟨O,M,l2,f,rfl,y⟩,_,J⟩:=zr.get hj (off:=0+j*2) (sb _);have F:=zr.1;have H:=(nN.1 hj).1;refine zw (fn:=Tryz.f43) R4 ?_;refine Zi ?_;intro R Z x4;refine zG ?_;refine zl [0,1,3,7,0,31,63,0,255,511,0,1024,3072,7168,16383,32767] rfl ?_;refine zH ?_;refine dI p G ?_;refine dL I D 0 ?_;refine zH ?_;refine dI rfl H ?_;refine dL J F 0 ?_;refine zH ?_;refine dC (iL _ (g.x zx) (y.x zx) (i0.x zx) w hd h0) ?_;rintro _ S V ⟨e,c,l5,m,o,q,u,v,rfl,B,C⟩ y5 x5;refine dS [jx e,gS c l5 m,jx o,gS q u v] ?_;intro T p6 Y;refine zq ?_;exact ⟨_,_,_,_,_,_,_,_,rfl,B.t zt,C.t zt⟩
end
end
def canG (d:Sol)(v:Nat):Prop:=∃x p,d.va[v]?=some x∧d.hi[v]?=some p∧(p.1=false∨x<p.2)
def canS (d:Sol)(v:Nat):Prop:=∃x p,d.va[v]?=some x∧d.lo[v]?=some p∧(p.1=false∨p.2<x)
def impC (d:Sol)(zs:List Int)(c v:Nat):Prop:=∃z,zs[c]?=some z∧(z<0∧canG d v∨0<z∧canS d v)
theorem du {d:Sol}{v:Nat}{x:Rat}{p:Bool×Rat}(e:d.va[v]?=some x)(c:d.hi[v]?=some p):canG d v↔(p.1=false∨x<p.2):=
 ⟨fun ⟨j,i,a,b,g⟩=>by rw [e] at a;rw [c] at b;cases a;cases b;exact g,fun h=>⟨x,p,e,c,h⟩⟩
theorem dt {d:Sol}{v:Nat}{x:Rat}{p:Bool×Rat}(e:d.va[v]?=some x)(c:d.lo[v]?=some p):canS d v↔(p.1=false∨p.2<x):=
 ⟨fun ⟨j,i,a,b,g⟩=>by rw [e] at a;rw [c] at b;cases a;cases b;exact g,fun h=>⟨x,p,e,c,h⟩⟩
def Best (d:Sol)(zs:List Int)(k:Nat)(f r:Int):Prop:=
 f= -1∧r=0∧(∀c v:Nat,c<k→d.nb[c]?=some v→¬impC d zs c v)∨
 ∃(c v:Nat) (z:Int),f=(c:Int)∧c<k∧d.nb[c]?=some v∧zs[c]?=some z∧impC d zs c v∧r= -(if z<0 then -1 else 1)∧∀c' v':Nat,c'<k→d.nb[c']?=some v'→impC d zs c' v'→v≤v'
section
variable {d:Sol}{zs:List Int}{k:Nat}{r:Int}
theorem Best.start:Best d zs 0 (-1) 0:=.inl ⟨rfl,rfl,fun c v h=>eN h (AQ _)⟩
theorem Best.no (b:Best d zs k f r){v:Nat}(q:d.nb[k]?=some v)(h:¬impC d zs k v):Best d zs (k+1) f r:=by
 rcases b with ⟨i,o,j⟩|⟨c,w,z,i,o,j,s,u,y,B⟩
 ·refine .inl ⟨i,o,fun g m C a=>?_⟩;by_cases e:g=k
  ·subst e;rw [q] at a;cases a;exact h
  exact j g m zo a
 refine .inr ⟨c,w,z,i,zo,j,s,u,y,fun g m C a p=>?_⟩;by_cases e:g=k
 ·subst e;rw [q] at a;cases a;exact eN p h
 exact B g m zo a p
theorem Best.skip {c w v:Nat}(b:Best d zs k (c:Int) r)(m:d.nb[c]?=some w)(C:d.nb[k]?=some v)(h:w≤v):Best d zs (k+1) (c:Int) r:=by
 rcases b with ⟨j,p,g⟩|⟨o,G,z,j,p,g,q,s,u,y⟩
 ·omega
 obtain rfl:c=o:=zo;rw [m] at g;cases g;refine .inr ⟨c,w,z,j,zo,m,q,s,u,fun i D F a B=>?_⟩;by_cases e:i=k
 ·subst e;rw [C] at a;cases a;exact h
 exact y i D zo a B
theorem Best.take (b:Best d zs k f r){v:Nat}{z s:Int}(m:d.nb[k]?=some v)(F:zs[k]?=some z)(hi:impC d zs k v)(h:f= -1∨∃c w:Nat,f=(c:Int)∧d.nb[c]?=some w∧v≤w)(D:s=if z<0 then -1 else 1):Best d zs (k+1) (k:Int) (-s):=by
 refine .inr ⟨k,v,z,rfl,Nat.lt_succ_self _,m,F,hi,by rw [D],fun j o L a i=>?_⟩;by_cases e:j=k
 ·subst e;rw [m] at a;cases a;exact AL _
 rcases b with ⟨u,y,g⟩|⟨p,M,z2,u,y,g,H,I,J,B⟩
 ·exact eN i (g j o zo a)
 have:=B j o zo a i;rcases h with h|⟨q,N,G,C,K⟩
 ·omega
 obtain rfl:q=p:=zo;rw [C] at g;cases g;omega
end
def EntV (d:Sol)(zs:List Int)(w:Value):Prop:=
 (∃(c v:Nat) (z:Int),d.nb[c]?=some v∧zs[c]?=some z∧impC d zs c v∧(∀c' v':Nat,d.nb[c']?=some v'→impC d zs c' v'→v≤v')∧w=.tuple #[gZ .i64 ((c:Nat):Int),gZ .i64 (-(if z<0 then -1 else 1)),jx true])∨
 ((∀c v:Nat,d.nb[c]?=some v→¬impC d zs c v)∧w=.tuple #[gZ .i64 0,gZ .i64 0,jx false])
section
variable {n:Nat}{h:HF}{d:Sol}{A:Adr}
theorem zfb (k:Nat)(s:SM l h n bs d A){a:Nat}(z:SZ d a)(S:a+a≤2496){r:Nat×List Int}(hr:d.ta[gP d.ta-1]?=some r)(hl:gP r.2=gP d.nb):CX (cal (k+8)) 91 [mo (some ⟨bs,0,none⟩)] h n fun w _ _=>EntV d r.2 w:=by
 obtain ⟨b0,a0,u0,c0,ty,st,i0⟩:=s.st;have a1:=s.bs.1;have a3:=z.ln;obtain ⟨k1,o1,Y,m1,r1,t1⟩:=rwS.at s.ta.rs hr;have hT:1≤gP d.ta:=zo;have a4:=z.lt;refine VF.cx (zO (fn:=Tryz.f91) R4 ?_);refine zG ?_;refine zl [0,1,3,7,0,16,48,112,240,496,1023,2047,4095] rfl ?_;refine zH ?_;refine dI (j:=gP d.ta-1) Y r1 ?_ (hj:=by exact congrArg (gZ .i64) (show ((gP d.ta:Nat):Int)-1=((gP d.ta-1:Nat):Int) by omega));refine dL t1 m1 0 ?_;refine zH ?_;refine zG ?_;refine sF (α:=Nat×Int×Int) (fun z=>[(0,mo (some ⟨bs,0,none⟩)),(5,gS (some ⟨r.1,0,none⟩) (gP r.2) (gP r.2)),(6,gZ .i64 z.2.1),(7,gZ .i64 z.2.2),(26,gS A.nb (gP d.nb) (gP d.nb)),(27,gZ .i64 (gP d.nb:Int)),(28,gZ .i64 (z.1:Int))]) (fun z h' n' w'=>w'=[]∧n≤n'∧Ext n h h'∧z.1≤gP d.nb∧Best d r.2 z.1 z.2.1 z.2.2) (fun z=>gP d.nb-z.1) (0,-1,0) ⟨rfl,eU,Ext.refl _ _,gH,Best.start⟩ ?_;rintro ⟨j,f,q⟩ t h2 n2 _ ⟨rfl,K,J,hj,hb⟩;have K:n≤n2:=K;have J:Ext n h h2:=J;have hj:j≤gP d.nb:=hj;have hb:Best d r.2 j f q:=hb;have u:=s.ext J K;obtain ⟨b2,a2,u2,c2,a7,a5,i2⟩:=u.st;refine zG ?_;by_cases q3:(j:Int)<(gP d.nb:Int)
 ·refine zG ?_;obtain ⟨v,g⟩:∃v,d.nb[j]?=some v:=⟨_,kF zo⟩;obtain ⟨zc,m⟩:∃zc,r.2[j]?=some zc:=⟨_,kF zo⟩;have D:=z.nb v (mp g);obtain ⟨x,i⟩:∃x,d.va[v]?=some x:=⟨_,kF D⟩;obtain ⟨pl,H⟩:∃x,d.lo[v]?=some x:=⟨_,kF (by rw [z.ll];exact D)⟩;obtain ⟨ph,G⟩:∃x,d.hi[v]?=some x:=⟨_,kF (by rw [z.lh];exact D)⟩;obtain ⟨k4,o4,Z,m4,r4,t4⟩:=natS.at u.nb.rs g;refine sI Z r4 ?_;refine sL t4 m4 0 ?_;have go:(∃c w:Nat,f=(c:Int)∧d.nb[c]?=some w∧w<v)∨f= -1∨(∃c w:Nat,f=(c:Int)∧d.nb[c]?=some w∧v≤w):=by
   rcases hb with ⟨h1,_⟩|⟨c,w,z,h1,h2,y,_⟩
   ·exact .inr (.inl h1)
   by_cases hw:w<v
   ·exact .inl ⟨c,w,h1,y,hw⟩
   exact .inr (.inr ⟨c,w,h1,y,zo⟩)
  rcases go with ⟨c,w,rfl,I,hw⟩|go
  ·refine zG ?_;obtain ⟨k5,o5,M,O,P,R⟩:=natS.at u.nb.rs I;refine sI M P ?_;refine sL R O 0 ?_;refine zG ?_;exact sK (j+1,(c:Int),q) ⟨rfl,K,J,(by show j+1≤_;omega),hb.skip I g zo⟩
  have L:=go;rcases go with rfl|⟨c,w,rfl,I,hw⟩<;>refine zG ?_
  rotate_left
  obtain ⟨k5,o5,M,O,P,R⟩:=natS.at u.nb.rs I;refine sI M P ?_;refine sL R O 0 ?_;refine zG ?_;all_goals
   obtain ⟨zr,_⟩:=u.rw r (mp hr);obtain ⟨W,⟨b6,a6,l6,W,rfl,i6⟩,_,t6⟩:=zr.get m (off:=0+j*2) (sb _);refine sI rfl (show j<gP r.2 by omega) ?_;refine sL t6 zr.1 0 ?_;refine sC (zav _ i6) ?_;rintro _ N n7 ⟨s7,rfl,o⟩ y7 x7;rcases o with ⟨rfl,o⟩|⟨rfl,o⟩|⟨rfl,o⟩
   ·refine zG ?_;refine sC (aG _ (u.x zx) i G (z.va _ (mp i)) (z.hi _ (mp G)) S) ?_;rintro _ C F ⟨U,rfl,B⟩ y8 x8;rcases bvs B with ⟨rfl,p⟩|⟨rfl,p⟩
    ·refine zG ?_;exact sK (j+1,_,q) ⟨rfl,zo,(show Tx n h F C from zx).2,(by show j+1≤_;omega),hb.no g (fun ⟨z',e,b⟩=>by
      rw [m] at e;cases e;rcases b with ⟨_,b⟩|⟨b,_⟩
      ·exact p ((du i G).1 b)
      ·omega)⟩
    refine zG ?_;exact sK (j+1,(j:Int),_) ⟨rfl,zo,(show Tx n h F C from zx).2,(by show j+1≤_;omega),hb.take g m ⟨zc,m,.inl ⟨o,(du i G).2 p⟩⟩ L (by rw [eS o])⟩
   ·refine zG ?_;exact sK (j+1,_,q) ⟨rfl,zo,(show Tx n h n7 N from zx).2,(by show j+1≤_;omega),hb.no g (fun ⟨z',e,b⟩=>by
      rw [m] at e;cases e;rcases b with ⟨b,_⟩|⟨b,_⟩<;>omega)⟩
   refine zG ?_;refine sC (lg _ (u.x zx) i H (z.va _ (mp i)) (z.lo _ (mp H)) S) ?_;rintro _ C F ⟨U,rfl,B⟩ y8 x8;rcases bvs B with ⟨rfl,p⟩|⟨rfl,p⟩
   ·refine zG ?_;exact sK (j+1,_,q) ⟨rfl,zo,(show Tx n h F C from zx).2,(by show j+1≤_;omega),hb.no g (fun ⟨z',e,b⟩=>by
     rw [m] at e;cases e;rcases b with ⟨b,_⟩|⟨_,b⟩
     ·omega
     ·exact p ((dt i H).1 b))⟩
   refine zG ?_;exact sK (j+1,(j:Int),_) ⟨rfl,zo,(show Tx n h F C from zx).2,(by show j+1≤_;omega),hb.take g m ⟨zc,m,.inr ⟨o,(dt i H).2 p⟩⟩ L (by rw [eP zo])⟩
 have T:j=gP d.nb:=zo;subst T;rcases hb with ⟨rfl,rfl,y⟩|⟨c,w,zc,rfl,h2,y,h4,h5,rfl,N⟩
 ·refine zG ?_;refine st_I (ik:=.i64) (a:=0) R5 ?_;refine zG ?_;refine zf ?_;exact .inr ⟨fun c v hv=>y c v (nN.1 hv).1 hv,rfl⟩
 refine zG ?_;refine st_I (ik:=.i64) (a:=(c:Int)) ⟨rfl,rfl,rfl,rfl,(by show some (gZ .i64 (if ((c:Nat):Int)<0 then 0 else (c:Int)))=_;rw [eP zo])⟩ ?_;refine zG ?_;refine zf ?_;exact .inl ⟨c,w,zc,y,h4,h5,fun V v' hv hi=>N V v' (nN.1 hv).1 hv hi,rfl⟩
end
section
variable {h:HF}{n:Nat}
theorem zna (a b:Nat):a*(b/rp a b)=((Fp a b:Nat):Int).natAbs:=by
 rw [qe,Fp,Nat.mul_div_assoc _ (B9 a b)]
theorem lcmX (k:Nat){x:Int}{y:Int}(g:GG h n)(b:IW h n sx ax lx cx x)(a:IW h n sy ay ly cy y)(hx:x.natAbs<BW)(hy:y.natAbs<BW):CX (cal (k+8)) 147 [.agg #[jx sx,gS ax lx cx],.agg #[jx sy,gS ay ly cy]] h n (IV ((Fp x.natAbs y.natAbs:Nat):Int)):=by
 refine zw (fn:=Tryz.f147) R4 ?_;refine zG ?_;refine sB [jx sx,gS ax lx cx] ?_;intro A U a1;refine sB [jx sy,gS ay ly cy] ?_;intro B V a2;refine sA ?_;intro C W a3;refine zG ?_;by_cases q14:(lx:Int)=0
 ·refine zG ?_;refine sT #[jx false,gS none 0 0] ?_;refine sS [jx false,gS none 0 0] ?_;intro D Y R;refine zq ?_;exact ⟨_,_,_,_,rfl,(IW.zero _ _).as (by have:=b.2.zero;have:=a.2.zero;rcases (show x.natAbs=0∨y.natAbs=0 by omega) with e|e<;>rw [e]<;>simp)⟩
 refine zG ?_;by_cases q16:(ly:Int)=0
 ·refine zG ?_;refine sT #[jx false,gS none 0 0] ?_;refine sS [jx false,gS none 0 0] ?_;intro F Z S;refine zq ?_;exact ⟨_,_,_,_,rfl,(IW.zero _ _).as (by have:=b.2.zero;have:=a.2.zero;rcases (show x.natAbs=0∨y.natAbs=0 by omega) with e|e<;>rw [e]<;>simp)⟩
 refine zG ?_;have f:y.natAbs≠0:=fun e=>q16 (by have:=a.2.zero;omega);refine zl [0,1,0,4,0,16,60,127,255,511,511,1023,4095] rfl ?_;refine zH ?_;refine dC (zqe _ (g.t zt) (b.t zt).2 (a.t zt).2 zhh) ?_;rintro _ G N ⟨o,L,q,rfl,j⟩ a7 a4;refine dC (zqo _ (a.t zt).2 j ⟨hy,Aj (Nat.gcd_le_right _ (CT f)) hy⟩ (by have:=A6 x.natAbs (CT f);omega)) ?_;rintro _ H O ⟨p,M,s,u,v,w,rfl,l,K⟩ a8 a5;refine zJ ?_;refine sC (zed _ (b.t zt).2 l ⟨hx,Aj (A3 _ _) hy⟩) ?_;rintro _ I P ⟨c,i,d,rfl,m⟩ a9 a6;refine sT #[jx false,gS c i d] ?_;refine sS [jx false,gS c i d] ?_;intro J a0 T;refine zq ?_;exact ⟨_,_,_,_,rfl,by rw [cA];exact FB.2 (Dn _),(m.t zt).as (zna _ _)⟩
end
def lcmD:List Rat→Nat→Nat
 |[],m=>m
 |q::l,m=>lcmD l (Fp m q.den)
theorem oO:∀{l:List Rat} {q:Rat} {m:Nat},lcmD (l++[q]) m=Fp (lcmD l m) q.den:=by
 intro l;induction l with
 |nil=>intro q m;rfl
 |cons x l ih=>intro q m;exact ih
theorem kv {D:Nat}:∀{l:List Rat} {m:Nat},(∀q∈l,q.den∣D)→m∣D→lcmD l m∣D:=by
 intro l;induction l with
 |nil=>intro m _ h;exact h
 |cons x l ih=>intro m b c;exact ih (fun q d=>b q (Bz _ d)) (Nat.lcm_dvd c (b x (AR ..)))
theorem zeq:∀{l:List Rat} {m:Nat},m∣lcmD l m:=by
 intro l;induction l with
 |nil=>intro m;exact Nat.dvd_refl m
 |cons x l ih=>intro m;exact Fr (Nat.dvd_lcm_left _ _) ih
theorem ku:∀{l:List Rat} {m:Nat} {q:Rat},q∈l→q.den∣lcmD l m:=by
 intro l;induction l with
 |nil=>intro m q h;cases h
 |cons x l ih=>
  intro m q h;rcases Ad.1 h with rfl|h
  ·exact Fr (Nat.dvd_lcm_right _ _) zeq
  exact ih h
theorem kt {l:List Rat}:∀{m:Nat},0<m→0<lcmD l m:=by
 induction l with
 |nil=>intro m h;exact h
 |cons x l ih=>intro m h;exact ih (Nat.lcm_pos h x.den_pos)
theorem za0 (q:Rat):q*(q.den:Rat)=(q.num:Rat):=by
 have h:=Rat.num_divInt_den q;have c:((q.den:Int):Rat)≠0:=fun e=>by have:=zdz.1 e;have:=q.den_pos;omega
 rw [Bs,DO] at h;rw [←Bn];have b:(q.num:Rat)*((q.den:Int):Rat)⁻¹ *((q.den:Int):Rat)=q.num:=by rw [Dy,Rat.inv_mul_cancel _ c,DP]
 rw [h] at b;exact b
def nfZ (den:Nat)(x:Rat):Int:=x.num*(den:Int).tdiv (x.den:Int)
theorem zkg {b:Nat}{x:Rat}(h:x.den∣b):((nfZ b x:Int):Rat)=x*(b:Rat):=by
 obtain ⟨m,rfl⟩:=h;have c:=x.den_pos;unfold nfZ;rw [Br,Fs _ zo,AC,←za0 x,Rat.natCast_mul,Dy,Bn]
def gcF (f:Nat→Int):Nat→Nat
 |0=>0
 |j+1=>rp (gcF f j) (f j).natAbs
theorem ze0 {f:Nat→Int}:∀{m j:Nat},j<m→gcF f m∣(f j).natAbs:=by
 intro m;induction m with
 |zero=>intro j h;omega
 |succ m ih=>
  intro j h;rcases Bi j m with b|b
  ·exact Fr (B5 _ _) (ih b)
  rw [show j=m by omega];exact B9 _ _
theorem zkv {f:Nat→Int}(b:∀j,j<m→(f j).natAbs≤B):gcF f m≤B:=by
 induction m with
 |zero=>exact CO _
 |succ m ih=>
  have c:=ih fun j e=>b j zo;have d:=b m zo;show rp (gcF f m) (f m).natAbs≤B;by_cases h0:gcF f m=0
  ·rw [h0,Nat.gcd_zero_left];exact d
  exact Aa (Nat.gcd_le_left _ (CT h0)) c
def ccF (f:Nat→Int)(m:Nat):Nat:=if gcF f m=0 then 1 else gcF f m
theorem dr {f:Nat→Int}:0<ccF f m:=by
 unfold ccF;split
 ·decide
 omega
theorem zn5 {f:Nat→Int}{j:Nat}(h:j<m):((ccF f m:Nat):Int)∣f j:=by
 unfold ccF;split
 ·exact Int.one_dvd _
 exact CA.2 (ze0 h)
def rowQ (N:Nat)(a:Nat→Nat→Rat)(i:Nat):List Rat:=(List.range N).map (a i)
def deni (N:Nat)(a:Nat→Nat→Rat)(i:Nat):Nat:=lcmD (rowQ N a i) 1
def nfi (N:Nat)(a:Nat→Nat→Rat)(i j:Nat):Int:=nfZ (deni N a i) (a i j)
def cci (N:Nat)(a:Nat→Nat→Rat)(i:Nat):Nat:=ccF (nfi N a i) N
def tT (N:Nat)(a:Nat→Nat→Rat)(i j:Nat):Int:=(nfi N a i j).tdiv (cci N a i:Int)
def tS (N:Nat)(a:Nat→Nat→Rat)(i:Nat):Rat:=AK (deni N a i:Int) (cci N a i:Int)
section
variable {a:Nat→Nat→Rat}
theorem zmj (hj:j<N):a i j∈rowQ N a i:=AZ.2 ⟨j,List.mem_range.2 hj,rfl⟩
theorem bW:0<deni N a i:=kt zd
theorem bY (hj:j<N):(a i j).den∣deni N a i:=ku (zmj hj)
theorem zn6 (h:0<m):((m:Int):Rat)≠0:=fun e=>by have:=zdz.1 e;omega
theorem zo1:tS N a i=(deni N a i:Int)/((cci N a i:Int):Rat):=by
 unfold tS;rw [Bs]
theorem zj0:0<tS N a i:=by
 rw [zo1,DO];have b:(0:Rat)<((deni N a i:Int):Rat):=Cc.2 (by have:=bW (N:=N) (a:=a) (i:=i);omega);have c:(0:Rat)<((cci N a i:Int):Rat):=Cc.2 (by have:=dr (f:=nfi N a i) (m:=N);unfold cci;omega);exact BZ b (Rat.inv_pos.2 c)
theorem zo0 (hj:j<N):((tT N a i j:Int):Rat)=tS N a i*a i j:=by
 have l:=zn5 (f:=nfi N a i) hj;have g:((cci N a i:Int):Rat)≠0:=zn6 (dr (f:=nfi N a i) (m:=N));obtain ⟨z,o⟩:=l;have c:nfi N a i j=(cci N a i:Int)*z:=o;have d:(cci N a i:Int)≠0:=by have:=dr (f:=nfi N a i) (m:=N);unfold cci;omega
 have e:=zkg (bY (N:=N) (a:=a) (i:=i) hj);have b:((nfi N a i j:Int):Rat)=a i j*(deni N a i:Rat):=e;unfold tT;rw [c,Fs _ d];rw [c,AC] at b;rw [zo1,DO,Dy,Cd _ (a i j),←Dy,Cd _ (a i j),Bn (deni N a i),←b,Cd _ (z:Rat),Dy,Rat.mul_inv_cancel _ g,DP]
end
section
variable {n:Nat}{h:HF}
theorem zep {D:Nat}{l:List Rat}(a:0<D)(hb:D<BW)(b:∀q∈l,q.den∣D):((lcmD (l.take j) 1:Nat):Int).natAbs<BW:=by
 rw [qe];exact Aj (EE a (kv (fun q c=>b q (AB c)) (Nat.one_dvd _))) hb
theorem aa {D:Nat}(a:0<D)(hb:D<BW)(b:q.den∣D):(denZ q).natAbs<BW:=by
 have h:=Aj (EE a b) hb;unfold denZ;split
 ·exact Aj gH hb
 rw [qe];exact h
theorem zem {l:List Rat}(g:l[j]?=some q)(h:denZ q=0):((lcmD (l.take j) 1:Nat):Int)=((lcmD (l.take (j+1)) 1:Nat):Int):=by
 rw [xa g,oO,yr.1 h,Nat.lcm_one_right]
theorem zen {l:List Rat}(g:l[j]?=some q)(h0:¬denZ q=0)(h:denZ q=((lcmD (l.take j) 1:Nat):Int)):((lcmD (l.take j) 1:Nat):Int)=((lcmD (l.take (j+1)) 1:Nat):Int):=by
 rw [wq h0] at h;have h:q.den=lcmD (l.take j) 1:=Int.ofNat.inj h;rw [xa g,oO,←h,Nat.lcm_self]
theorem zeo {l:List Rat}(g:l[j]?=some q)(h0:¬denZ q=0):((Fp ((lcmD (l.take j) 1:Nat):Int).natAbs (denZ q).natAbs:Nat):Int)=((lcmD (l.take (j+1)) 1:Nat):Int):=by
 rw [wq h0,qe,qe,xa g,oO]
theorem zn3 (k:Nat)(g:GG h n){s L:Nat}(V:QS h n (gS aq s L) qs){D:Nat}(u:0<D)(hb:D<BW)(hd:∀q∈qs,q.den∣D)(hl:gP qs<1000000):CX (cal (k+9)) 93 [gS aq s L] h n (IV ((lcmD qs 1:Nat):Int)):=by
 have ar:=V.len;refine zw (fn:=Tryz.f93) R4 ?_;refine Zi ?_;intro ae b2 b7;refine zG ?_;refine sC (zea _ _ _) ?_;rintro _ af c ⟨y,v,G,B,rfl,T⟩ be b8;refine sA ?_;intro ag b3 b9;refine sS [jx y,gS v G B] ?_;intro S a1 ax;refine zG ?_;refine sF (α:=Nat×Bool×Option Addr×Nat×Nat) (fun z=>[(2,mo (some ⟨3*n+2,0,none⟩)),(3,mo (some ⟨3*c+2,0,none⟩)),(7,gS aq s L),(8,gZ .i64 (s:Int)),(9,gZ .i64 (z.1:Int))]) (fun z M Z w'=>w'=[]∧c+1≤Z∧ExtB (c+1) [3*c+2] S M∧M (3*c+2)=some (.row [jx z.2.1,gS z.2.2.1 z.2.2.2.1 z.2.2.2.2] 86)∧IW M Z z.2.1 z.2.2.1 z.2.2.2.1 z.2.2.2.2 (((lcmD (qs.take z.1) 1:Nat):Int))∧z.1≤gP qs) (fun z=>gP qs-z.1) (0,y,v,G,B) ⟨rfl,eU,ExtB.refl _ _ _,a1,((T.t zt).as (by rw [By];rfl)),gH⟩ ?_;rintro ⟨j,l,i,p,o⟩ t F a0 _ ⟨rfl,bf,a9,e,a,hj⟩;have e:F (3*c+2)=some (.row [jx l,gS i p o] 86):=e;have a:IW F a0 l i p o (((lcmD (qs.take j) 1:Nat):Int)):=a;have hj:j≤gP qs:=hj;refine zG ?_;by_cases q16:(j:Int)<(s:Int)
 ·refine zG ?_;obtain ⟨ad,b⟩:∃d,(qs)[j]?=some d:=⟨_,kF zo⟩;obtain ⟨ap,ay,O,N,W,P,a5,a6,a7,a8,R,Y,a3,a4,ao,m⟩:=QS.at V b;refine sI R a3 ?_;refine sL a4 Y 0 ?_;refine sA ?_;intro ah b4 ba;refine sS [jx O,gS N W P,jx a5,gS a6 a7 a8] ?_;intro ai b5 az;refine zG ?_;refine sC (yK _ (m.x zx)) ?_;rintro _ aj au ⟨ab,rfl,J⟩ bg bb;rcases bvs J with ⟨rfl,f⟩|⟨rfl,f⟩
  ·refine zG ?_;refine sC ((znm _ (m.x zx) (a.t zt) (aa u hb (hd _ (mp b))) (zep u hb hd)).cx) ?_;rintro _ ak av ⟨ac,rfl,K⟩ bh bc;rcases bvs K with ⟨rfl,I⟩|⟨rfl,I⟩
   ·refine zG ?_;refine sC (lcmX _ (g.x zx) (a.t zt) (m.x zx) (zep u hb hd) (aa u hb (hd _ (mp b)))) ?_;rintro _ al aw ⟨A,w,H,C,rfl,U⟩ bi bd;refine sS [jx A,gS w H C] ?_;intro am a2 b0;refine zG ?_;exact sK (j+1,A,w,H,C) ⟨rfl,zo,zy,a2,((U.t zt).as (zeo b f)),(by show j+1≤gP qs;omega)⟩
   refine zG ?_;exact sK (j+1,l,i,p,o) ⟨rfl,zo,zy,zp,((a.t zt).as (zen b f I)),(by show j+1≤gP qs;omega)⟩
  refine zG ?_;exact sK (j+1,l,i,p,o) ⟨rfl,zo,zy,zp,((a.t zt).as (zem b f)),(by show j+1≤gP qs;omega)⟩
 refine zG ?_;refine sS [jx l,gS i p o] ?_;intro an b6 b1;refine zq ?_;exact ⟨_,_,_,_,rfl,(a.t zt).as (by rw [show j=gP qs by omega,xd])⟩
end
end Go.Proofs.YtepkmadmigkgmaaGreatDoor
namespace Go.Proofs.YtepkmadmigkgmaaGreatDoor
variable {n V k obj B a i l r:Nat}{L:(Nat→Rat)→Prop}
def sm (n:Nat)(f:Nat→Int):Int:=match n with|0=>0|n+1=>sm n f+f n
theorem tf {f g:Nat→Int}:∀{n:Nat},(∀j,j<n→f j=g j)→sm n f=sm n g:=by
 intro n;induction n with
 |zero=>intro _;rfl
 |succ n ih=>intro h;show sm n f+f n=sm n g+g n;rw [ih fun j b=>h j zo,h n zo]
theorem zma {f:Nat→Int}{n:Nat}(h:∀j,j<n→f j=0):sm n f=0:=by
 induction n with
 |zero=>rfl
 |succ n ih=>show sm n f+f n=0;rw [ih fun j b=>h j zo,h n zo];rfl
theorem zj5 (n:Nat)(f g:Nat→Int):sm n (fun j=>f j+g j)=sm n f+sm n g:=by
 induction n with
 |zero=>rfl
 |succ n ih=>show sm n _+(f n+g n)=(sm n f+f n)+(sm n g+g n);rw [ih];omega
theorem oj (n:Nat)(c:Int)(f:Nat→Int):sm n (fun j=>c*f j)=c*sm n f:=by
 induction n with
 |zero=>exact (Dq c).symm
 |succ n ih=>show sm n _+c*f n=c*(sm n f+f n);rw [ih,Int.mul_add]
theorem jF {f:Nat→Int}{n k:Nat}(d:k<n)(h:∀j,j<n→j≠k→f j=0):sm n f=f k:=by
 induction n with
 |zero=>omega
 |succ n ih=>
  show sm n f+f n=f k;by_cases e:k=n
  ·subst e;rw [zma fun j c=>h j zo zo];omega
  rw [ih zo fun j c b=>h j zo b,h n zo zo];omega
theorem zo7 {f:Nat→Int}{n p:Nat}(m:p+1<n)(h:∀j,j<n→j≠p→j≠p+1→f j=0):sm n f=f p+f (p+1):=by
 induction n with
 |zero=>omega
 |succ n ih=>
  show sm n f+f n=_;by_cases e:p+1=n
  ·subst e;rw [jF (k:=p) zo fun j g b=>h j zo b zo]
  rw [ih zo fun j g c d=>h j zo c d,h n zo zo zo];omega
theorem cD {f:Nat→Int}{n:Nat}(h:∀j,j<n→(f j).natAbs≤B):(sm n f).natAbs≤n*B:=by
 induction n with
 |zero=>exact CO _
 |succ n ih=>
  have b:=ih fun j e=>h j zo;have c:=h n zo;have d:=Int.natAbs_add_le (sm n f) (f n);show (sm n f+f n).natAbs≤_;rw [Bo];omega
def sgA (r:Nat):Int:=if r%2=0 then 1 else -1
theorem zhp (r:Nat):sgA (r+1)= -sgA r:=by unfold sgA;split<;>split<;>omega
def sk (r i:Nat):Nat:=if i<r then i else i+1
def det:Nat→(Nat→Nat→Int)→Int
 |0,_=>1
 |n+1,A=>sm (n+1) fun r=>sgA r*A r 0*det n fun i j=>A (sk r i) (j+1)
def rw' (A:Nat→Nat→Int)(k:Nat)(u:Nat→Int):Nat→Nat→Int:=fun i j=>if i=k then u j else A i j
theorem vU:∀{n:Nat} {A B:Nat→Nat→Int},(∀i j,i<n→j<n→A i j=B i j)→det n A=det n B:=by
 intro n;induction n with
 |zero=>intro A B _;rfl
 |succ n ih=>
  intro A B h;refine tf fun r b=>?_;rw [h r 0 b zo,ih fun i j hi c=>h _ _ (by unfold sk;split<;>omega) zo]
theorem zo9:sk r i≠r:=by unfold sk;split<;>omega
def ks (r k:Nat):Nat:=if k<r then k else k-1
theorem zhj {k:Nat}(h:r≠k):sk r i=k↔i=ks r k:=by unfold sk ks;split<;>split<;>omega
theorem nj:∀{n:Nat} (A:Nat→Nat→Int) (k:Nat) (a b:Int) (u w:Nat→Int),k<n→det n (rw' A k fun j=>a*u j+b*w j)=a*det n (rw' A k u)+b*det n (rw' A k w):=by
 intro n;induction n with
 |zero=>intro A k a b u w h;omega
 |succ n ih=>
  intro A k a b u w d;show sm (n+1) _=a*sm (n+1) _+b*sm (n+1) _;rw [←oj,←oj,←zj5];refine tf fun r g=>?_;by_cases h:r=k
  ·subst h;have e:∀v:Nat→Int,det n (fun i j=>rw' A r v (sk r i) (j+1))=det n fun i j=>A (sk r i) (j+1):=fun v=>vU fun i j _ _=>by unfold rw';rw [eP zo9]
   rw [e,e,e];have c:∀v:Nat→Int,rw' A r v r 0=v 0:=fun v=>by unfold rw';rw [eS rfl]
   rw [c,c,c]
   grind
  have e:∀v:Nat→Int,(fun i j=>rw' A k v (sk r i) (j+1))=rw' (fun i j=>A (sk r i) (j+1)) (ks r k) fun j=>v (j+1):=fun v=>by
   funext i j;unfold rw';by_cases h2:sk r i=k
   ·rw [eS h2,eS ((zhj h).1 h2)]
   rw [eP h2,eP (mt (zhj h).2 h2)]
  have c:∀v:Nat→Int,rw' A k v r 0=A r 0:=fun v=>by unfold rw';rw [eP h]
  rw [e,e,e,c,c,c,ih _ _ _ _ _ _ (by unfold ks;split<;>omega)]
  grind
theorem zfq:∀{n:Nat} {A:Nat→Nat→Int} {p:Nat},p+1<n→(∀j,A p j=A (p+1) j)→det n A=0:=by
 intro n;induction n with
 |zero=>intro A p h;omega
 |succ n ih=>
  intro A p g d;show sm (n+1) _=0;rw [zo7 g]
  ·have e:det n (fun i j=>A (sk p i) (j+1))=det n fun i j=>A (sk (p+1) i) (j+1):=by
    refine vU fun i j _ _=>?_;by_cases h:i=p
    ·subst h;have b:sk i i=i+1:=by unfold sk;rw [eP zo]
     have c:sk (i+1) i=i:=by unfold sk;rw [eS zo]
     rw [b,c,d]
    have:sk p i=sk (p+1) i:=by unfold sk;split<;>split<;>omega
    rw [this]
   rw [e,d 0,zhp]
   grind
  intro r q m o;have e:det n (fun i j=>A (sk r i) (j+1))=0:=by
   rcases Bi r p with h|h
   ·refine ih (p:=p-1) zo fun j=>?_;have b:sk r (p-1)=p:=by unfold sk;rw [eP zo];omega
    have c:sk r (p-1+1)=p+1:=by unfold sk;rw [eP zo];omega
    rw [b,c,d]
   refine ih (p:=p) zo fun j=>?_;have b:sk r p=p:=by unfold sk;rw [eS zo]
   have c:sk r (p+1)=p+1:=by unfold sk;rw [eS zo]
   rw [b,c,d]
  rw [e,Dq]
theorem fG (A:Nat→Nat→Int)(k:Nat):rw' A k (A k)=A:=by
 funext i j;unfold rw';split
 ·rename_i h;rw [h]
 rfl
theorem fH (A:Nat→Nat→Int){k:Nat}(h:k≠l)(u w:Nat→Int):rw' (rw' A k u) l w=rw' (rw' A l w) k u:=by
 funext i j;unfold rw';split
 ·split
  ·omega
  rfl
 rfl
theorem zfr {n:Nat}(A:Nat→Nat→Int)(k:Nat)(u w:Nat→Int)(b:k<n):det n (rw' A k fun j=>u j+w j)=det n (rw' A k u)+det n (rw' A k w):=by
 have:=nj A k 1 1 u w b;simp only [F5] at this;exact this
theorem zi0 {n:Nat}{A:Nat→Nat→Int}{p:Nat}(d:p+1<n):det n (rw' (rw' A p (A (p+1))) (p+1) (A p))= -det n A:=by
 have b:p≠p+1:=zo;have g:∀u w:Nat→Int,det n (rw' (rw' A p u) (p+1) w)+det n (rw' (rw' A p w) (p+1) u)=0:=fun u w=>by
  have c:∀v:Nat→Int,det n (rw' (rw' A p v) (p+1) v)=0:=fun v=>zfq d fun j=>by
   unfold rw';rw [eP zo,eS rfl,eS rfl]
  have e:∀v:Nat→Int,det n (rw' (rw' A p fun j=>u j+w j) (p+1) v)=det n (rw' (rw' A p u) (p+1) v)+det n (rw' (rw' A p w) (p+1) v):=fun v=>by
   rw [fH A b,zfr (rw' A (p+1) v) p u w zo,←fH A b u v,←fH A b w v]
  have m:=c fun j=>u j+w j;rw [zfr _ _ _ _ d,e,e,c,c] at m;omega
 have h:=g (A p) (A (p+1));rw [fG A p,fG A (p+1)] at h;omega
theorem zla:∀{d n:Nat} {A:Nat→Nat→Int} {p:Nat},p+d+1<n→(∀j,A p j=A (p+d+1) j)→det n A=0:=by
 intro d;induction d with
 |zero=>intro n A p c b;exact zfq c b
 |succ d ih=>
  intro n A p c b;have h:=zi0 (A:=A) (p:=p+d+1) zo;have e:det n (rw' (rw' A (p+d+1) (A (p+d+1+1))) (p+d+1+1) (A (p+d+1)))=0:=by
   refine ih (p:=p) zo fun j=>?_;unfold rw';rw [eP zo,eP zo,eP zo,eS rfl];exact b j
  omega
theorem zi1 {n:Nat}{A:Nat→Nat→Int}{p q:Nat}(c:p<n)(e:q<n)(g:p≠q)(h:∀j,A p j=A q j):det n A=0:=by
 rcases Bi p q with b|b
 ·obtain ⟨d,rfl⟩:∃d,q=p+d+1:=⟨q-p-1,zo⟩;exact zla e h
 obtain ⟨d,rfl⟩:∃d,p=q+d+1:=⟨p-q-1,zo⟩;exact zla c fun j=>(h j).symm
theorem znw {n:Nat}(A:Nat→Nat→Int)(s:Nat)(b:s<n)(t:Nat→Int)(V:Nat→Nat→Int):∀m,det n (rw' A s fun j=>sm m fun k=>t k*V k j)=sm m fun k=>t k*det n (rw' A s (V k)):=by
 intro m;induction m with
 |zero=>
  have:=nj A s 0 0 (V 0) (V 0) b;simp only [C8,E1] at this;exact this
 |succ m ih=>
  show det n (rw' A s fun j=>sm m (fun k=>t k*V k j)+t m*V m j)=_;have:=nj A s 1 (t m) (fun j=>sm m fun k=>t k*V k j) (V m) b;simp only [F5] at this;rw [this,ih];rfl
theorem zf0 {n:Nat}{A:Nat→Nat→Int}{s:Nat}(b:s<n){d:Int}{f t:Nat→Int}(h:∀j,j<n→d*f j=sm n fun k=>t k*A k j):d*det n (rw' A s f)=t s*det n A:=by
 have g:=nj A s d 0 f f b;simp only [C8,E1] at g;rw [←g];have m:det n (rw' A s fun j=>d*f j)=det n (rw' A s fun j=>sm n fun k=>t k*A k j):=vU fun i j hi o=>by
  unfold rw';split
  ·exact h j o
  rfl
 rw [m,znw A s b,jF b fun k u c=>?_,fG];rw [zi1 (p:=s) (q:=k) b u (fun e=>c e.symm) fun j=>by unfold rw';rw [eS rfl,eP c],Dq]
def fct:Nat→Nat
 |0=>1
 |n+1=>(n+1)*fct n
theorem zdl (r:Nat):(sgA r).natAbs=1:=by unfold sgA;split<;>rfl
theorem df:∀{n:Nat} {A:Nat→Nat→Int} {M:Nat},(∀i j,i<n→j<n→(A i j).natAbs≤M)→(det n A).natAbs≤fct n*M^n:=by
 intro n;induction n with
 |zero=>intro A M _;exact AL _
 |succ n ih=>
  intro A M h;have b:(sm (n+1) fun r=>sgA r*A r 0*det n fun i j=>A (sk r i) (j+1)).natAbs≤(n+1)*(M*(fct n*M^n)):=cD fun r c=>by
   rw [AF,AF,zdl,BR];exact Ar (h r 0 c zo) (ih fun i j hi d=>h _ _ (by unfold sk;split<;>omega) zo)
  show (sm (n+1) _).natAbs≤(n+1)*fct n*M^(n+1);refine Aa b (Nat.le_of_eq ?_);rw [Ac]
  grind
theorem znx:∀n:Nat,det n (fun i j=>if i=j then 1 else 0)=1:=by
 intro n;induction n with
 |zero=>rfl
 |succ n ih=>
  show sm (n+1) _=1;rw [jF (k:=0) zo fun j c b=>by show sgA j*(if j=0 then (1:Int) else 0)*_=0;rw [eP b,Dq,C8]];show sgA 0*(if 0=0 then (1:Int) else 0)*det n (fun i j=>if sk 0 i=j+1 then (1:Int) else 0)=1;rw [eS rfl];have e:det n (fun i j=>if sk 0 i=j+1 then (1:Int) else 0)=det n (fun i j=>if i=j then 1 else 0):=vU fun i j _ _=>by
   have:sk 0 i=i+1:=by unfold sk;rw [eP zo]
   rw [this];by_cases h:i=j
   ·rw [eS h,eS zo]
   rw [eP h,eP zo]
  rw [e,ih];rfl
def smr (n:Nat)(f:Nat→Rat):Rat:=match n with|0=>0|n+1=>smr n f+f n
theorem yg {f g:Nat→Rat}:∀{n:Nat},(∀j,j<n→f j=g j)→smr n f=smr n g:=by
 intro n;induction n with
 |zero=>intro _;rfl
 |succ n ih=>intro h;show smr n f+f n=smr n g+g n;rw [ih fun j b=>h j zo,h n zo]
theorem zdd (n:Nat)(f g:Nat→Rat):smr n (fun j=>f j-g j)=smr n f-smr n g:=by
 induction n with
 |zero=>show (0:Rat)=0-0;grind
 |succ n ih=>show smr n _+(f n-g n)=(smr n f+f n)-(smr n g+g n);rw [ih];grind
theorem wL (n:Nat)(c:Rat)(f:Nat→Rat):smr n (fun j=>c*f j)=c*smr n f:=by
 induction n with
 |zero=>show (0:Rat)=c*0;grind
 |succ n ih=>show smr n _+c*f n=c*(smr n f+f n);rw [ih];grind
theorem fA {f:Nat→Rat}:∀{n:Nat},0<smr n f→∃j,j<n∧0<f j:=by
 intro n;induction n with
 |zero=>intro h;exact eN h Ca
 |succ n ih=>
  intro h;have h:0<smr n f+f n:=h;by_cases h1:0<f n
  ·exact ⟨n,zo,h1⟩
  obtain ⟨j,c,b⟩:=ih (by grind);exact ⟨j,zo,b⟩
theorem zhf {f:Nat→Rat}{n:Nat}(h:∀j,j<n→f j=0):smr n f=0:=by
 induction n with
 |zero=>rfl
 |succ n ih=>show smr n f+f n=0;rw [ih fun j b=>h j zo,h n zo];grind
theorem zde {f:Nat→Rat}{n k:Nat}(d:k<n)(h:∀j,j<n→j≠k→f j=0):smr n f=f k:=by
 induction n with
 |zero=>omega
 |succ n ih=>
  show smr n f+f n=f k;by_cases e:k=n
  ·subst e;rw [zhf fun j c=>h j zo zo];grind
  rw [ih zo fun j c b=>h j zo b,h n zo zo];grind
theorem xY {t D:Rat}(h:0<t*D):0<t∧0<D∨t<0∧D<0:=by
 by_cases h1:0<t
 ·refine .inl ⟨h1,B7.1 fun b=>?_⟩;have c:=DQ (Bc h1) (show 0≤ -D by grind)
  grind
 by_cases b:t<0
 ·refine .inr ⟨b,B7.1 fun c=>?_⟩;have d:=DQ (show 0≤ -t by grind) c
  grind
 have:t=0:=by grind
 rw [this] at h
 grind
theorem yq {t D:Rat}(h:t*D<0):0<t∧D<0∨t<0∧0<D:=by
 have:=xY (t:=t) (D:= -D) (by grind)
 grind
section
variable (lo hi:Nat→Option Rat)
def inBd (v:Nat)(x:Rat):Prop:=(∀l,lo v=some l→l≤x)∧(∀u,hi v=some u→x≤u)
def cG (v:Nat)(x:Rat):Prop:=∀u,hi v=some u→x<u
def cS (v:Nat)(x:Rat):Prop:=∀l,lo v=some l→l<x
end
theorem mP {hi:Nat→Option Rat}{v:Nat}{x:Rat}(h:¬cG hi v x):∃u,hi v=some u∧u≤x:=by
 refine tp fun c=>h fun u d=>B7.1 fun b=>c ⟨u,d,b⟩
theorem mO {lo:Nat→Option Rat}{v:Nat}{x:Rat}(h:¬cS lo v x):∃l,lo v=some l∧x≤l:=by
 refine tp fun d=>h fun l c=>B7.1 fun b=>d ⟨l,c,b⟩
structure RD where
 x:Nat→Rat
 B:Nat→Prop
 nv:Nat→Nat
 t:Nat→Rat
 d:Rat
 e:Nat
 w:Nat
 low:Bool
def suit (lo hi:Nat→Option Rat)(D:RD)(c:Nat):Prop:=
 if D.low then 0<D.t c∧cG hi (D.nv c) (D.x (D.nv c))∨D.t c<0∧cS lo (D.nv c) (D.x (D.nv c))
 else D.t c<0∧cG hi (D.nv c) (D.x (D.nv c))∨0<D.t c∧cS lo (D.nv c) (D.x (D.nv c))
structure StepR (n V:Nat)(L:(Nat→Rat)→Prop)(lo hi:Nat→Option Rat)(D D':RD):Prop where
 e:D.e<n
 nb:∀c,c<n→¬D.B (D.nv c)∧D.nv c<V
 inj:∀c c',c<n→c'<n→D.nv c=D.nv c'→c=c'
 w:D.B D.w∧D.w<V
 B':∀v,D'.B v↔v=D.nv D.e∨D.B v∧v≠D.w
 x':∀v,v<V→¬D.B v→v≠D.nv D.e→D'.x v=D.x v
 bd:∀v,v<V→¬D.B v→inBd lo hi v (D.x v)
 viol:if D.low then ∃l,lo D.w=some l∧D.x D.w<l∧D'.x D.w=l else ∃u,hi D.w=some u∧u<D.x D.w∧D'.x D.w=u
 sm:∀v,v<D.w→D.B v→inBd lo hi v (D.x v)
 dp:0<D.d
 row:∀y,L y→D.d*y D.w=smr n fun c=>D.t c*y (D.nv c)
 xL:L D.x
 su:suit lo hi D D.e
 sms:∀c,c<n→D.nv c<D.nv D.e→¬suit lo hi D c
theorem Nat.max_of {p:Nat→Prop}{V:Nat}(c:∀v,p v→v<V)(h:∃v,p v):∃v,p v∧∀u,p u→u≤v:=by
 induction V with
 |zero=>obtain ⟨v,b⟩:=h;have:=c v b;omega
 |succ V ih=>
  by_cases h1:p V
  ·exact ⟨V,h1,fun u d=>by have:=c u d;omega⟩
  exact ih fun v b=>by
   have:=c v b;have:v≠V:=fun e=>h1 (e▸b);omega
theorem zer {p:Nat→Prop}(g:p a):∀{b:Nat},a≤b→¬p b→∃c,a≤c∧c<b∧p c∧∀i,c<i→i≤b→¬p i:=by
 intro b;induction b with
 |zero=>intro h d;exact eN (show p 0 by rwa [show a=0 by omega] at g) d
 |succ b ih=>
  intro h d;by_cases h1:a=b+1
  ·exact eN (h1▸g) d
  by_cases h2:p b
  ·exact ⟨b,zo,zo,h2,fun i hi j=>by rwa [show i=b+1 by omega]⟩
  obtain ⟨c,m,s,o,q⟩:=ih zo h2;refine ⟨c,m,zo,o,fun i hi j=>?_⟩;by_cases e:i=b+1
  ·rwa [e]
  exact q i hi zo
section
variable {lo hi:Nat→Option Rat}{f:Nat→RD}
theorem zp3 (hk:0<k)(hL:∀x y,L x→L y→L fun v=>x v-y v)(d:∀i,StepR n V L lo hi (f i) (f (i+1)))(hp:∀i,f (i+k)=f i):False:=by
 -- the largest variable that enters
 have hV:∀v,(∃i,(f i).nv (f i).e=v)→v<V:=fun v ⟨i,h⟩=>h▸((d i).nb _ (d i).e).2;obtain ⟨r,⟨I,N⟩,T⟩:=Nat.max_of hV ⟨_,0,rfl⟩;have G:(f (I+k)).nv (f (I+k)).e=r:=by rw [hp];exact N
 generalize hbb:I+k=b at G
 -- it was basic before
 have a8:(f (I+1)).B r:=((d I).B' r).2 (.inl N.symm);have a1:¬(f b).B r:=G▸((d b).nb _ (d b).e).1;obtain ⟨a,ad,a9,aa,S⟩:=zer (p:=fun i=>(f i).B r) a8 (b:=b) zo a1;have W:(f a).w=r:=by
  refine tp fun h=>S (a+1) zo zo ?_;exact ((d a).B' r).2 (.inr ⟨aa,fun e=>h e.symm⟩)
 have hx:∀i,a<i→i≤b→(f i).x r=(f (a+1)).x r:=by
  intro i;induction i with
  |zero=>intro h;omega
  |succ i ih=>
   intro g C;by_cases e:i=a
   ·rw [e]
   have a5:r≠(f i).nv (f i).e:=fun e2=>S (i+1) zo C (((d i).B' r).2 (.inl e2));rw [(d i).x' r (hV r ⟨I,N⟩) (S i zo zo) a5];exact ih zo zo
 have Z:=hx b a9 eU
 -- what is below r is within its bounds at a
 have a3:∀v,v<r→inBd lo hi v ((f a).x v):=fun v hv=>by
  by_cases h:(f a).B v
  ·exact (d a).sm v (by rw [W];exact hv) h
  exact (d a).bd v (by have:=hV r ⟨I,N⟩;omega) h
 -- what leaves enters
 have a7:∀i,∃j,(f j).nv (f j).e=(f i).w:=fun i=>by
  have g:¬(f (i+1)).B (f i).w:=fun h=>by
   rcases ((d i).B' _).1 h with h|h
   ·exact ((d i).nb _ (d i).e).1 (h▸(d i).w.1)
   exact h.2 rfl
  refine tp fun O=>?_;have C:∀j,¬(f (i+1+j)).B (f i).w:=fun j=>by
   induction j with
   |zero=>exact g
   |succ j ih=>
    intro h;rcases ((d (i+1+j)).B' _).1 h with h|h
    ·exact O ⟨_,h.symm⟩
    exact ih h.1
  refine C (k-1) ?_;rw [show i+1+(k-1)=i+k by omega,hp];exact (d i).w.1
 have ab:(f b).w<r:=by
  obtain ⟨j,hj⟩:=a7 b;have g:=T _ ⟨j,hj⟩;have C:(f b).w≠r:=fun e=>a1 (e▸(d b).w.1);omega
 -- a variable that does not enter stays
 have a0:∀c,c<n→(¬∃j,(f j).nv (f j).e=(f b).nv c)→(f a).x ((f b).nv c)=(f b).x ((f b).nv c):=fun c F O=>by
  have g:∀j,¬(f (b+j)).B ((f b).nv c)∧(f (b+j)).x ((f b).nv c)=(f b).x ((f b).nv c):=fun j=>by
   induction j with
   |zero=>exact ⟨((d b).nb c F).1,rfl⟩
   |succ j ih=>
    refine ⟨fun h=>?_,?_⟩
    ·rcases ((d (b+j)).B' _).1 h with h|h
     ·exact O ⟨_,h.symm⟩
     exact ih.1 h.1
    rw [←ih.2];exact (d (b+j)).x' _ ((d b).nb c F).2 ih.1 fun e=>O ⟨_,e.symm⟩
  have C:=(g (a+k-b)).2;rw [show b+(a+k-b)=a+k by omega,hp] at C;exact C
 -- the row of the variable that leaves at b
 have U:=(d b).row _ (hL _ _ (d a).xL (d b).xL);have Y:=a3 _ ab;have A:=(d a).viol;have P:=(d b).viol;have q:=(d b).su;have a6:∀c,c<n→(f b).nv c≠r→∀s:Bool,s=(f b).low→(s=true→0<(f b).t c*((f a).x ((f b).nv c)-(f b).x ((f b).nv c))→False)∧(s=false→(f b).t c*((f a).x ((f b).nv c)-(f b).x ((f b).nv c))<0→False):=by
  intro c F a5 s ac;by_cases hf:∃j,(f j).nv (f j).e=(f b).nv c
  ·have a4:(f b).nv c<r:=by have:=T _ hf;omega
   have g:=(d b).sms c F (by rw [G];exact a4);have C:=a3 _ a4;unfold suit at g;rw [←ac] at g;constructor
   ·intro e R;rw [eS e] at g;rcases xY R with ⟨m,D⟩|⟨m,D⟩
    ·obtain ⟨u,hu,J⟩:=mP fun h=>g (.inl ⟨m,h⟩);have:=C.2 u hu
     grind
    obtain ⟨l,H,J⟩:=mO fun h=>g (.inr ⟨m,h⟩);have:=C.1 l H
    grind
   intro e R;rw [eP (by rw [e];exact Ba)] at g;rcases yq R with ⟨m,D⟩|⟨m,D⟩
   ·obtain ⟨l,H,J⟩:=mO fun h=>g (.inr ⟨m,h⟩);have:=C.1 l H
    grind
   obtain ⟨u,hu,J⟩:=mP fun h=>g (.inl ⟨m,h⟩);have:=C.2 u hu
   grind
  rw [a0 c F hf];constructor<;>intro _ h<;>grind
 have a2:=(d b).dp;unfold suit at q;rw [G,Z] at q;cases H:(f b).low with
 |true=>
  rw [H] at P q;obtain ⟨l,g,C,_⟩:∃l,lo (f b).w=some l∧(f b).x (f b).w<l∧_:=P;have R:=Y.1 l g;obtain ⟨c,F,m⟩:=fA (show 0<smr n fun c=>(f b).t c*((f a).x ((f b).nv c)-(f b).x ((f b).nv c)) by
   rw [←U];exact BZ a2 (by grind))
  by_cases hcr:(f b).nv c=r
  ·obtain rfl:=(d b).inj c _ F (d b).e (hcr.trans G.symm);rw [G,Z] at m;rw [eS rfl] at q;rw [W] at A;cases hla:(f a).low with
   |true=>
    rw [hla] at A;obtain ⟨l',D,J,h7⟩:∃l,lo r=some l∧(f a).x r<l∧(f (a+1)).x r=l:=A;rcases xY m with ⟨K,M⟩|⟨K,M⟩
    ·grind
    rcases q with ⟨o,_⟩|⟨_,o⟩
    ·grind
    have:=o l' D;grind
   |false=>
    rw [hla] at A;obtain ⟨u',D,J,h7⟩:∃u,hi r=some u∧u<(f a).x r∧(f (a+1)).x r=u:=A;rcases xY m with ⟨K,M⟩|⟨K,M⟩
    ·rcases q with ⟨_,o⟩|⟨o,_⟩
     ·have:=o u' D;grind
     grind
    grind
  exact (a6 c F hcr true H.symm).1 rfl m
 |false=>
  rw [H] at P q;obtain ⟨u,g,C,_⟩:∃u,hi (f b).w=some u∧u<(f b).x (f b).w∧_:=P;have R:=Y.2 u g;obtain ⟨c,F,m⟩:=fA (show 0<smr n fun c=>(-1)*((f b).t c*((f a).x ((f b).nv c)-(f b).x ((f b).nv c))) by
   rw [wL,←U];have D:=BZ a2 (show 0<(f b).x (f b).w-(f a).x (f b).w by grind)
   grind)
  have m:(f b).t c*((f a).x ((f b).nv c)-(f b).x ((f b).nv c))<0:=by grind
  by_cases hcr:(f b).nv c=r
  ·obtain rfl:=(d b).inj c _ F (d b).e (hcr.trans G.symm);rw [G,Z] at m;rw [eP Ba] at q;rw [W] at A;cases hla:(f a).low with
   |true=>
    rw [hla] at A;obtain ⟨l',D,J,h7⟩:∃l,lo r=some l∧(f a).x r<l∧(f (a+1)).x r=l:=A;rcases yq m with ⟨K,M⟩|⟨K,M⟩
    ·rcases q with ⟨o,_⟩|⟨_,o⟩
     ·grind
     have:=o l' D;grind
    grind
   |false=>
    rw [hla] at A;obtain ⟨u',D,J,h7⟩:∃u,hi r=some u∧u<(f a).x r∧(f (a+1)).x r=u:=A;rcases yq m with ⟨K,M⟩|⟨K,M⟩
    ·grind
    rcases q with ⟨_,o⟩|⟨o,_⟩
    ·have:=o u' D;grind
    grind
  exact (a6 c F hcr false H.symm).2 rfl m
end
structure OD where
 x:Nat→Rat
 B:Nat→Prop
 nv:Nat→Nat
 q:Nat→Rat
 d:Rat
 e:Nat
 w:Nat
 dv:Nat→Rat
def impr (lo hi:Nat→Option Rat)(D:OD)(c:Nat):Prop:=D.q c<0∧cG hi (D.nv c) (D.x (D.nv c))∨0<D.q c∧cS lo (D.nv c) (D.x (D.nv c))
structure StepO (n V obj:Nat)(L:(Nat→Rat)→Prop)(lo hi:Nat→Option Rat)(D D':OD):Prop where
 e:D.e<n
 nb:∀c,c<n→¬D.B (D.nv c)∧D.nv c<V
 cov:∀v,v<V→¬D.B v→∃c,c<n∧D.nv c=v
 inj:∀c c',c<n→c'<n→D.nv c=D.nv c'→c=c'
 w:D.B D.w∧D.w<V
 B':∀v,D'.B v↔v=D.nv D.e∨D.B v∧v≠D.w
 x':∀v,v<V→D'.x v=D.x v
 dp:0<D.d
 row:∀y,L y→D.d*y obj=smr n fun c=>D.q c*y (D.nv c)
 im:impr lo hi D D.e
 sm:∀c,c<n→D.nv c<D.nv D.e→¬impr lo hi D c
 dL:L D.dv
 de:D.q D.e*D.dv (D.nv D.e)<0
 d0:∀c,c<n→c≠D.e→D.dv (D.nv c)=0
 bl:(0<D.dv D.w→∃u,hi D.w=some u∧u≤D.x D.w)∧(D.dv D.w<0→∃l,lo D.w=some l∧D.x D.w≤l)
 mb:∀v,v<D.w→D.B v→(0<D.dv v→cG hi v (D.x v))∧(D.dv v<0→cS lo v (D.x v))
section
variable {lo hi:Nat→Option Rat}{f:Nat→OD}
theorem zp4 (hk:0<k)(g:∀i,StepO n V obj L lo hi (f i) (f (i+1)))(hp:∀i,f (i+k)=f i):False:=by
 have hV:∀v,(∃i,(f i).nv (f i).e=v)→v<V:=fun v ⟨i,h⟩=>h▸((g i).nb _ (g i).e).2;obtain ⟨r,⟨b,G⟩,Z⟩:=Nat.max_of hV ⟨_,0,rfl⟩;have D:∀i v,v<V→(f i).x v=(f 0).x v:=fun i v hv=>by
  induction i with
  |zero=>rfl
  |succ i ih=>rw [(g i).x' v hv,ih]
 -- what enters leaves
 have a0:(f (b+1)).B r:=((g b).B' r).2 (.inl G.symm);have a1:¬(f (b+k)).B r:=by rw [hp];exact G▸((g b).nb _ (g b).e).1
 obtain ⟨a,a7,a8,a2,a3⟩:=zer (p:=fun i=>(f i).B r) a0 (b:=b+k) zo a1;have P:(f a).w=r:=by
  refine tp fun h=>a3 (a+1) zo zo ?_;exact ((g a).B' r).2 (.inr ⟨a2,fun e=>h e.symm⟩)
 have T:r<V:=hV r ⟨b,G⟩
 -- the direction at a in the objective's row at b
 have h1:=(g a).row _ (g a).dL;rw [zde (g a).e fun j Y a6=>by rw [(g a).d0 j Y a6];grind] at h1;have h2:(f a).dv obj<0:=by
  have U:(f a).d*(f a).dv obj<0:=by rw [h1];exact (g a).de
  rcases yq U with h|h
  ·exact h.2
  have:=(g a).dp;grind
 have U:=(g b).row _ (g a).dL;have h4:0<smr n fun c=>(-1)*((f b).q c*(f a).dv ((f b).nv c)):=by
  rw [wL,←U];have F:=BZ (g b).dp (show 0< -(f a).dv obj by grind)
  grind
 obtain ⟨c,W,F⟩:=fA h4;have F:(f b).q c*(f a).dv ((f b).nv c)<0:=by grind
 obtain ⟨a5,K⟩:=(g b).nb c W;have M:(f a).x ((f b).nv c)=(f b).x ((f b).nv c):=by rw [D a _ K,D b _ K]
 have O:(f b).nv c=(f a).nv (f a).e∨(f a).B ((f b).nv c):=by
  by_cases h:(f a).B ((f b).nv c)
  ·exact .inr h
  obtain ⟨c',a4,A⟩:=(g a).cov _ K h;by_cases s:c'=(f a).e
  ·exact .inl (by rw [←A,s])
  have:=(g a).d0 c' a4 s;rw [A] at this;rw [this] at F
  grind
 have R:∃j,(f j).nv (f j).e=(f b).nv c:=by
  refine tp fun S=>?_;have A:∀j,¬(f (b+j)).B ((f b).nv c):=fun j=>by
   induction j with
   |zero=>exact a5
   |succ j ih=>
    intro h;rcases ((g (b+j)).B' _).1 h with h|h
    ·exact S ⟨_,h.symm⟩
    exact ih h.1
  rcases O with h|h
  ·exact S ⟨a,h.symm⟩
  have:=A (a-b);rw [show b+(a-b)=a by omega] at this;exact this h
 have a9:=Z _ R;by_cases Y:(f b).nv c=r
 ·obtain rfl:=(g b).inj c _ W (g b).e (Y.trans G.symm);have o:=(g b).im;unfold impr at o;rw [G] at o F;have J:=(g a).bl;rw [P,D a r T,←D b r T] at J;rcases yq F with ⟨A,s⟩|⟨A,s⟩
  ·obtain ⟨l,y,I⟩:=J.2 s;rcases o with ⟨m,_⟩|⟨_,m⟩
   ·grind
   have:=m l y;grind
  obtain ⟨u,y,I⟩:=J.1 s;rcases o with ⟨_,m⟩|⟨m,_⟩
  ·have:=m u y;grind
  grind
 have N:=(g b).sm c W (by rw [G];omega);unfold impr at N;have o:=(g a).im;unfold impr at o;rcases yq F with ⟨A,s⟩|⟨A,s⟩
 ·obtain ⟨l,y,I⟩:=mO fun h=>N (.inr ⟨A,h⟩);rcases O with ho|ho
  ·rw [ho] at s y I M;rcases yq (g a).de with ⟨m,H⟩|⟨m,H⟩
   ·rcases o with ⟨C,_⟩|⟨_,C⟩
    ·grind
    have:=C l y;grind
   grind
  have:=((g a).mb _ (by rw [P];omega) ho).2 s l y
  grind
 obtain ⟨u,y,I⟩:=mP fun h=>N (.inl ⟨A,h⟩);rcases O with ho|ho
 ·rw [ho] at s y I M;rcases yq (g a).de with ⟨m,H⟩|⟨m,H⟩
  ·grind
  rcases o with ⟨_,C⟩|⟨C,_⟩
  ·have:=C u y;grind
  grind
 have:=((g a).mb _ (by rw [P];omega) ho).1 s u y
 grind
end
end Go.Proofs.YtepkmadmigkgmaaGreatDoor
