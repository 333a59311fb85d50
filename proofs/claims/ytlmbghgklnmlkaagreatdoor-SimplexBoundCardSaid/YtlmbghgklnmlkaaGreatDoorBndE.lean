import Derived.Below
import Derived.Test.YtlmbghgklnmlkaaGreatDoorRows
import Derived.ChangeSame
import Derived.ChangeVars
import Derived.ChangeSlices
import Derived.JoinedOf
import Derived.RowKit
import Derived.RowKitTokens
import Derived.LaidLaws
import Derived.Carry
import Derived.Handed
import Derived.Deep.Slices
import Derived.Test.YtlmbghgklnmlkaaGreatDoorTie
import Derived.Test.YtlmbghgklnmlkaaGreatDoorCards
import Derived.Test.YtlmbghgklnmlkaaGreatDoorBndD
set_option maxHeartbeats 8000000
set_option linter.unusedVariables false
set_option linter.unusedSimpArgs false
namespace Go.Proofs.YtlmbghgklnmlkaaGreatDoor
open Go Go.GL
variable {B D M b d i j m n:Nat}{q:Rat}{hi:List UInt8}{α β:Type}{ds rs:List SideD}{ms xs:List Rat}{ρ ρ':Ren}{e:TypeId}
def Fr (D M:Nat)(q:Rat):Prop:=∃N:Int,q*(D:Rat)=(N:Rat)∧N.natAbs≤M*D
theorem Fr.add {M':Nat}{x y:Rat}(h:Fr D M x)(h':Fr D M' y):Fr D (M+M') (x+y):=by
 obtain ⟨N,h1,h2⟩:=h
 obtain ⟨N',h3,h4⟩:=h'
 exact ⟨N+N',by rw [Rat.add_mul,h1,h3,Rat.intCast_add],by rw [Nat.add_mul];omega⟩
theorem Fr.mul {D' M':Nat}{x y:Rat}(h:Fr D M x)(h':Fr D' M' y):Fr (D*D') (M*M') (x*y):=by
 obtain ⟨N,h1,h2⟩:=h
 obtain ⟨N',h3,h4⟩:=h'
 refine ⟨N*N',?_,?_⟩
 ·rw [Rat.natCast_mul,Rat.intCast_mul,←h1,←h3]
  grind
 rw [Int.natAbs_mul,show M*M'*(D*D')=(M*D)*(M'*D') from by grind]
 exact Nat.mul_le_mul h2 h4
theorem Fr.up {x:Rat}(h:Fr D M x)(k:Nat):Fr (D*k) M x:=by
 obtain ⟨N,h1,h2⟩:=h
 refine ⟨N*k,?_,?_⟩
 ·rw [Rat.natCast_mul,Rat.intCast_mul,←h1,Rat.intCast_natCast,Rat.mul_assoc]
 rw [Int.natAbs_mul,Int.natAbs_natCast,←Nat.mul_assoc]
 exact Nat.mul_le_mul_right _ h2
theorem Fr.zero (D M:Nat):Fr D M 0:=⟨0,by rw [Rat.zero_mul];rfl,Nat.zero_le _⟩
theorem Fr.mono {M':Nat}{x:Rat}(h:Fr D M x)(hm:M≤M'):Fr D M' x:=by
 obtain ⟨N,h1,h2⟩:=h
 exact ⟨N,h1,Nat.le_trans h2 (Nat.mul_le_mul_right _ hm)⟩
theorem bz (q:Rat):q*(q.den:Rat)=(q.num:Rat):=by
 have h:(q.den:Rat)≠0:=by
  intro e
  have:=q.den_nz
  exact this (Rat.natCast_eq_zero_iff.1 e)
 have h2:q=(q.num:Rat)/(q.den:Rat):=by rw [←Rat.mkRat_eq_div,Rat.mkRat_self]
 conv=>lhs;lhs;rw [h2]
 exact Rat.div_mul_cancel h
theorem Fr.of {a:Nat}(h:Sz a q)(hd:q.den∣D):Fr D (2^a) q:=by
 obtain ⟨k,rfl⟩:=hd
 refine ⟨q.num*k,?_,?_⟩
 ·rw [Rat.natCast_mul,←Rat.mul_assoc,bz,Rat.intCast_mul,Rat.intCast_natCast]
 rw [Int.natAbs_mul,Int.natAbs_natCast]
 refine Nat.le_trans (Nat.mul_le_mul_right k (Nat.le_of_lt h.1)) ?_
 exact Nat.mul_le_mul_left _ (Nat.le_mul_of_pos_left _ q.den_pos)
theorem Fr.sz (h:Fr D M q)(hD:0<D)(h1:D<2^m)(h2:M*D<2^m):Sz m q:=by
 obtain ⟨N,h3,h4⟩:=h
 have e:q.num*(D:Int)=N*(q.den:Int):=by
  rw [←Rat.intCast_inj,Rat.intCast_mul,Rat.intCast_mul,←bz,←h3]
  simp only [Rat.intCast_natCast]
  grind
 have hdv:q.den∣D:=by
  have h5:(q.den:Int)∣q.num*(D:Int):=⟨N,by rw [e,Int.mul_comm]⟩
  have h6:=Int.natAbs_dvd_natAbs.2 h5
  rw [Int.natAbs_mul,Int.natAbs_natCast,Int.natAbs_natCast] at h6
  exact (Nat.Coprime.symm q.reduced).dvd_of_dvd_mul_left h6
 have hle:=Nat.le_of_dvd hD hdv
 refine ⟨?_,zo⟩
 have h7:q.num.natAbs*D=N.natAbs*q.den:=by
  have:=congrArg Int.natAbs e
  rw [Int.natAbs_mul,Int.natAbs_mul,Int.natAbs_natCast,Int.natAbs_natCast] at this
  exact this
 have h8:q.num.natAbs*D≤N.natAbs*D:=by rw [h7];exact Nat.mul_le_mul_left _ hle
 have:=Nat.le_of_mul_le_mul_right h8 hD
 omega
def ui:List Rat→Nat
 |[]=>1
 |q::l=>q.den*ui l
theorem vK:∀l:List Rat,0<ui l
 |[]=>Nat.one_pos
 |q::l=>Nat.mul_pos q.den_pos (vK l)
theorem vL:∀{l:List Rat} {q:Rat},q∈l→q.den∣ui l
 |q::l,x,h=>by
  rcases List.mem_cons.1 h with rfl|h
  ·exact ⟨ui l,rfl⟩
  exact Nat.dvd_trans (vL h) ⟨q.den,Nat.mul_comm _ _⟩
theorem sZ {a:Nat}:∀{l:List Rat} {k:Nat},(∀q∈l,Sz a q)→l.length≤k→ui l≤2^(a*k):=by
 intro l
 induction l with
 |nil=>intro k _ _;exact Nat.two_pow_pos _
 |cons q l ih=>
  intro k h hk
  cases k with
  |zero=>simp at hk
  |succ k=>
   show q.den*ui l≤_
   rw [Nat.mul_succ,Nat.pow_add,Nat.mul_comm (2^(a*k))]
   exact Nat.mul_le_mul (Nat.le_of_lt (h q (by simp)).2) (ih (fun q hq=>h q (by simp [hq])) (by simpa using hk))
theorem e9 {m x:Rat}{lo:List UInt8}(h1:pb m lo hi)(h2:inB x lo hi):y7 m lo hi≤m*x:=by
 rcases Int.lt_trichotomy m.num 0 with h|h|h
 ·rw [vB h]
  have h3:x≤zm hi:=h2.2.resolve_left (h1.2 h)
  have h4:0≤ -m:=by rw [←Rat.num_nonneg,Rat.neg_num];omega
  have:=Rat.mul_le_mul_of_nonneg_left h3 h4
  rw [Rat.neg_mul,Rat.neg_mul] at this
  exact Rat.neg_le_neg_iff.1 this
 ·rw [tu h,Rat.num_eq_zero.1 h,Rat.zero_mul]
  exact Rat.le_refl
 rw [vA h]
 have h3:zm lo≤x:=h2.1.resolve_left (h1.1 h)
 exact Rat.mul_le_mul_of_nonneg_left h3 (by rw [←Rat.num_nonneg];omega)
theorem hS.tail {R:α→β→Prop}{a:α}{b:β}{ds:List α}{xs:List β}(h:hS R (a::ds) (b::xs)):R a b∧hS R ds xs:=
 ⟨h 0 a b rfl rfl,fun j d q h1 h2=>h (j+1) d q h1 h2⟩
theorem iM:∀{ds:List SideD} {ms xs:List Rat},okS ds ms→inS ds xs→ds.length=ms.length→ds.length=xs.length→sumS ds ms≤dotR ms xs:=by
 intro ds
 induction ds with
 |nil=>
  intro ms xs _ _ h1 h2
  cases ms with
  |nil=>exact Rat.le_refl
  |cons _ _=>cases h1
 |cons d ds ih=>
  intro ms xs ho hi h1 h2
  cases ms with
  |nil=>cases h1
  |cons m ms=>
   cases xs with
   |nil=>cases h2
   |cons x xs=>
    have a:=hS.tail ho
    have b:=hS.tail hi
    have h3:=ih a.2 b.2 (by simpa using h1) (by simpa using h2)
    have h4:=e9 a.1 b.1
    show y7 m d.lo d.hi+sumS ds ms≤m*x+dotR ms xs
    exact Rat.le_trans (Rat.add_le_add_right.2 h4) (Rat.add_le_add_left.2 h3)
theorem ca {f g:Nat→Rat}:∀{n:Nat} {k:Nat} {xs:List Rat},xs.length=n→dotR ((List.range' k n).map fun j=>f j+g j) xs=dotR ((List.range' k n).map f) xs+dotR ((List.range' k n).map g) xs:=by
 intro n
 induction n with
 |zero=>intro k xs h;cases xs with
  |nil=>exact (Rat.add_zero 0).symm
  |cons _ _=>cases h
 |succ n ih=>
  intro k xs h
  cases xs with
  |nil=>cases h
  |cons x xs=>
   rw [List.range'_succ]
   show (f k+g k)*x+dotR _ xs=(f k*x+dotR _ xs)+(g k*x+dotR _ xs)
   rw [ih (by simpa using h)]
   grind
theorem jD {f:Nat→Rat}{m:Rat}:∀{n:Nat} {k:Nat} {xs:List Rat},xs.length=n→dotR ((List.range' k n).map fun j=>f j*m) xs=m*dotR ((List.range' k n).map f) xs:=by
 intro n
 induction n with
 |zero=>intro k xs h;cases xs with
  |nil=>exact (Rat.mul_zero m).symm
  |cons _ _=>cases h
 |succ n ih=>
  intro k xs h
  cases xs with
  |nil=>cases h
  |cons x xs=>
   rw [List.range'_succ]
   show f k*m*x+dotR _ xs=m*(f k*x+dotR _ xs)
   rw [ih (by simpa using h)]
   grind
theorem zcx {l:List Rat}(h:l.length=n):(List.range' 0 n).map (fun j=>(l[j]?).getD 0)=l:=by
 subst h
 apply List.ext_getElem?
 intro i
 by_cases hi:i<l.length
 ·simp [List.getElem?_range',hi]
 rw [List.getElem?_eq_none (by simp;omega),List.getElem?_eq_none zo]
theorem rX {cs:List Rat}:sO rs ms cs i 0=(List.range' 0 cs.length).map fun j=>colQ rs ms ((cs[j]?).getD 0) j i:=by
 apply List.ext_getElem?
 intro k
 by_cases hk:k<cs.length
 ·rw [pE (List.getElem?_eq_getElem hk),if_neg (Nat.not_lt_zero _)]
  simp [List.getElem?_range',hk]
 rw [List.getElem?_eq_none (by rw [oT];omega),List.getElem?_eq_none (by simp;omega)]
theorem cv {cs:List Rat}(hx:xs.length=cs.length)(hA:∀d∈rs,d.A.length=cs.length)(hm:ms.length=rs.length):∀i,i≤rs.length→dotR (sO rs ms cs i 0) xs=dotR cs xs+dotR (ms.take i) ((rs.take i).map fun d=>dotR d.A xs):=by
 intro i
 induction i with
 |zero=>intro _;rw [jP,List.take_zero,ub,Rat.add_zero]
 |succ i ih=>
  intro hi
  obtain ⟨d,hd⟩:∃d,rs[i]?=some d:=⟨_,List.getElem?_eq_getElem zo⟩
  obtain ⟨m,hmi⟩:∃m,ms[i]?=some m:=⟨_,List.getElem?_eq_getElem zo⟩
  have e:sO rs ms cs (i+1) 0=(List.range' 0 cs.length).map fun j=>colQ rs ms ((cs[j]?).getD 0) j i+(d.A[j]?).getD 0*m:=by
   rw [rX]
   refine List.map_congr_left fun j _=>?_
   show colQ rs ms _ j i+((rs[i]?.bind fun d=>d.A[j]?).getD 0)*ms[i]?.getD 0=_
   rw [hd,hmi]
   rfl
  rw [e,ca hx,←rX,ih zo,jD hx,zcx (hA d (List.mem_of_getElem? hd)),yD hmi,List.map_take,List.map_take,yD (show (rs.map fun d=>dotR d.A xs)[i]?=some (dotR d.A xs) by rw [List.getElem?_map,hd];rfl),oM (by simp;omega)]
  grind
theorem iD {cs:List Rat}(h1:okS rs ms)(h2:okS ds cs)(h3:∀d∈rs,zaf xs d)(h4:inS ds xs)(hx:xs.length=cs.length)(hA:∀d∈rs,d.A.length=cs.length)(hm:ms.length=rs.length)(hc:cs.length=ds.length):sumS rs ms+sumS ds cs≤dotR (sO rs ms cs rs.length 0) xs:=by
 have a:=iM (xs:=rs.map fun d=>dotR d.A xs) h1 (fun j d q hd hq=>by
  rw [List.getElem?_map,hd] at hq
  injection hq with hq
  have hq:dotR d.A xs=q:=hq
  have h5:=h3 d (List.mem_of_getElem? hd)
  unfold zaf rowH at h5
  rw [hA d (List.mem_of_getElem? hd),←hx,List.take_length,hq] at h5
  exact h5) hm.symm (by simp)
 have b:=iM h2 h4 hc.symm zo
 rw [cv hx hA hm rs.length (Nat.le_refl _),List.take_length,←hm,List.take_length,Rat.add_comm]
 exact Rat.le_trans (Rat.add_le_add_right.2 b) (Rat.add_le_add_left.2 a)
def denD (rs:List SideD)(ms cs xs:List Rat):Nat:=ui (rs.flatMap (·.A))*ui ms*ui cs*ui xs
theorem zbn {a:Nat}{cs:List Rat}{c:Rat}(hr:∀d∈rs,∀q∈d.A,Sz a q)(hm:∀q∈ms,Sz b q)(hc:Sz b c)(hcm:c∈cs)(j:Nat):∀i,Fr (ui (rs.flatMap (·.A))*ui ms*ui cs) (2^b+i*2^(a+b)) (colQ rs ms c j i):=by
 intro i
 induction i with
 |zero=>
  rw [Nat.zero_mul,Nat.add_zero]
  exact Fr.of hc (Nat.dvd_trans (vL hcm) ⟨_,Nat.mul_comm _ _⟩)
 |succ i ih=>
  have z:=ih.mono (M':=2^b+(i+1)*2^(a+b)) (by rw [Nat.succ_mul];exact Nat.add_le_add_left (Nat.le_add_right _ _) _)
  show Fr _ _ (colQ rs ms c j i+_)
  cases h1:rs[i]?.bind fun d=>d.A[j]? with
  |none=>show Fr _ _ (colQ rs ms c j i+0*_);rw [Rat.zero_mul,Rat.add_zero];exact z
  |some x=>
   cases h3:ms[i]? with
   |none=>show Fr _ _ (colQ rs ms c j i+_*0);rw [Rat.mul_zero,Rat.add_zero];exact z
   |some m=>
    obtain ⟨d,hd,hx⟩:=Option.bind_eq_some_iff.1 h1
    have hdm:=List.mem_of_getElem? hd
    have hxm:=List.mem_of_getElem? hx
    have hmm:=List.mem_of_getElem? h3
    have f1:Fr (ui (rs.flatMap (·.A))) (2^a) x:=Fr.of (hr d hdm x hxm) (vL (List.mem_flatMap.2 ⟨d,hdm,hxm⟩))
    have f2:Fr (ui ms) (2^b) m:=Fr.of (hm m hmm) (vL hmm)
    have f3:=(f1.mul f2).up (ui cs)
    rw [←Nat.pow_add] at f3
    show Fr _ _ (colQ rs ms c j i+x*m)
    refine (ih.add f3).mono ?_
    rw [Nat.succ_mul];omega
theorem zca {a:Nat}{cs:List Rat}(hr:∀d∈rs,∀q∈d.A,Sz a q)(hm:∀q∈ms,Sz b q)(hc:∀q∈cs,Sz b q)(hx:∀q∈xs,Sz b q)(hl:xs.length=cs.length)(i:Nat):∀j,j≤cs.length→Fr (denD rs ms cs xs) (j*((2^b+i*2^(a+b))*2^b)) (dotR ((sO rs ms cs i 0).take j) (xs.take j)):=by
 intro j
 induction j with
 |zero=>intro _;rw [List.take_zero,ub];exact Fr.zero _ _
 |succ j ih=>
  intro hj
  obtain ⟨c,hcj⟩:∃c,cs[j]?=some c:=⟨_,List.getElem?_eq_getElem zo⟩
  obtain ⟨x,hxj⟩:∃x,xs[j]?=some x:=⟨_,List.getElem?_eq_getElem zo⟩
  have hcm:=List.mem_of_getElem? hcj
  have hxm:=List.mem_of_getElem? hxj
  have e:=pE (rs:=rs) (ms:=ms) (i:=i) (j:=0) hcj
  rw [if_neg (Nat.not_lt_zero _)] at e
  rw [xi e hxj,Nat.succ_mul]
  exact (ih zo).add ((zbn hr hm (hc c hcm) hcm j i).mul (Fr.of (hx x hxm) (vL hxm)))
theorem dQ (h:∀d∈rs,d.A.length≤n):(rs.flatMap (·.A)).length≤rs.length*n:=by
 induction rs with
 |nil=>simp
 |cons d rs ih=>
  rw [List.flatMap_cons,List.length_append,List.length_cons,Nat.succ_mul]
  have:=h d (by simp)
  have:=ih fun d hd=>h d (by simp [hd])
  omega
theorem zaj {A C a c e:Nat}(h1:A≤2^a)(h2:B≤2^b)(h3:C≤2^c)(h4:D≤2^d)(he:a+b+c+d=e):A*B*C*D≤2^e:=by
 have:=Nat.mul_le_mul (Nat.mul_le_mul (Nat.mul_le_mul h1 h2) h3) h4
 rw [←Nat.pow_add,←Nat.pow_add,←Nat.pow_add,he] at this
 exact this
theorem zak {A a e:Nat}(h1:A≤2^a)(h2:B≤2^b)(he:a+b<e):A*B<2^e:=by
 refine Nat.lt_of_le_of_lt (Nat.mul_le_mul h1 h2) ?_
 rw [←Nat.pow_add]
 exact Nat.pow_lt_pow_right zd he
theorem zb9 {cs:List Rat}(hr:∀d∈rs,∀q∈d.A,Sz 27 q)(hm:∀q∈ms,Sz 40 q)(hc:∀q∈cs,Sz 40 q)(hx:∀q∈xs,Sz 40 q)(hl:xs.length=cs.length)(h1:rs.length≤6)(h2:cs.length≤5)(h3:ms.length≤6)(hA:∀d∈rs,d.A.length≤5)(hj:j≤cs.length):Sz 1600 (dotR ((sO rs ms cs rs.length 0).take j) (xs.take j)):=by
 have hf:=dQ hA
 have hfm:∀q∈rs.flatMap (·.A),Sz 27 q:=fun q hq=>by obtain ⟨d,hd,hq⟩:=List.mem_flatMap.1 hq;exact hr d hd q hq
 have d1:=sZ (k:=30) hfm (by have:=Nat.mul_le_mul_right 5 h1;omega)
 have d2:=sZ (k:=6) hm h3
 have d3:=sZ (k:=5) hc h2
 have d4:=sZ (k:=5) hx zo
 have hD:denD rs ms cs xs≤2^1450:=zaj (a:=27*30) (b:=40*6) (c:=40*5) (d:=40*5) (e:=1450) d1 d2 d3 d4 rfl
 have hM:j*((2^40+rs.length*2^(27+40))*2^40)≤2^115:=by
  have h5:rs.length*2^(27+40)≤6*2^(27+40):=Nat.mul_le_mul_right _ h1
  have h6:j*((2^40+rs.length*2^(27+40))*2^40)≤5*((2^40+6*2^(27+40))*2^40):=Nat.mul_le_mul zo (Nat.mul_le_mul_right _ zo)
  exact Nat.le_trans h6 zd
 refine (zca hr hm hc hx hl rs.length j hj).sz (Nat.mul_pos (Nat.mul_pos (Nat.mul_pos (vK _) (vK _)) (vK _)) (vK _)) (Nat.lt_of_le_of_lt hD (Nat.pow_lt_pow_right (a:=2) (m:=1450) (n:=1600) zd zd)) ?_
 exact zak (a:=115) (b:=1450) (e:=1600) hM hD zd
section
theorem qJ {i j:Nat}(h:i≤j):10^i≤10^j:=Nat.pow_le_pow_right zd h
theorem oQ (k:Nat)(h:HF)(n:Nat)(s:List UInt8)(hs:AllD s)(hl:s.length≤9):VF (cal (k+1)) 131 [.string ⟨⟨s⟩⟩] h n fun v=>v=.int .i64 ((dval s:Nat):Int):=by
 refine zu (fn:=Tryz.f131) R4 ?_
 refine zN ?_
 repeat refine zR ?_
 refine zN ?_
 repeat refine zR ?_
 refine zN ?_
 refine zM ?_
 refine st_I (ik:=.i64) (a:=(s.length:Int)) R5 ?_
 repeat refine zR ?_
 refine zN ?_
 refine zZ (α:=Nat) (fun m=>[(0,.string ⟨⟨s⟩⟩),(3,.int .i64 ((dval (s.take m):Nat):Int)),(6,.int .i64 (s.length:Int)),(7,.int .i64 (m:Int))]) (fun m h' n' w=>h=h'∧n=n'∧w=[]∧m≤s.length) (fun m=>s.length-m) 0 ⟨rfl,rfl,rfl,rfl,trivial⟩ ⟨rfl,rfl,rfl,Nat.zero_le _⟩ (by show s.length-0<LL;unfold LL;omega) ?_
 rintro m t _ _ _ ⟨rfl,rfl,rfl,hm⟩
 refine zN ?_
 by_cases hml:m=s.length
 ·repeat refine zR ?_
  refine zN ?_
  rw [za rfl]
  refine zN ?_
  repeat refine zR ?_
  refine zN ?_
  exact retF _ rfl (zh rfl) R2 (by rw [hml,List.take_length];rfl)
 obtain ⟨b,hb⟩:∃b,s[m]?=some b:=⟨s[m]'zo,List.getElem?_eq_getElem zo⟩
 have hbd:=hs b (List.mem_of_getElem? hb)
 have hlt:dval (s.take m)<10^m:=by
  have:=tP (s:=s.take m) fun b hb=>hs b (List.mem_of_mem_take hb)
  rw [List.length_take,Nat.min_eq_left zo] at this
  exact this
 have hp:=qJ (i:=m) (j:=8) zo
 rw [show (10:Nat)^8=100000000 from rfl] at hp
 have hnext:dval (s.take (m+1))=10*dval (s.take m)+(b.toNat-48):=by rw [qt hb,u9]
 generalize dval (s.take m)=V at hlt hnext
 repeat refine zR ?_
 refine zN ?_
 rw [zc rfl]
 refine zN ?_
 repeat refine zR ?_
 refine zN ?_
 refine zM ?_
 refine st_mul (a:=10) (b:=(V:Int)) rfl rfl rfl rfl rfl rfl zo ?_
 refine zM ?_
 refine zM ?_
 refine yk (j:=m) R8 hb ?_
 refine pU (a:=b.toNat) (b:=48) R6 zo ?_
 refine xH (ik:=.i64) (a:=((b.toNat-48:Nat):Int)) R6 (by show some (Value.int .i64 (IntKind.wrap .i64 _))=_;rw [yI zo]) ?_
 refine vo (a:=10*(V:Int)) (b:=((b.toNat-48:Nat):Int)) R6 zo ?_
 repeat refine zR ?_
 refine zN ?_
 repeat refine zR ?_
 refine zN ?_
 exact goOn (m+1) (by show s.length-(m+1)<s.length-m;omega) ⟨rfl,by show Value.int .i64 _=Value.int .i64 _;rw [hnext];congr 1,rfl,rfl,trivial⟩ ⟨rfl,rfl,rfl,by show m+1≤_;omega⟩
theorem gY (k:Nat)(h:HF)(n:Nat)(a b:Nat)(hb:b<9223372036854775808):VF (cal (k+1)) 88 [.int .i64 (a:Int),.int .i64 (b:Int)] h n fun v=>v=.int .i64 ((Nat.gcd a b:Nat):Int):=by
 refine zu (fn:=Tryz.f88) R4 ?_
 refine zN ?_
 repeat refine zR ?_
 refine zN ?_
 refine zZ (α:=Nat×Nat) (fun z=>[(0,.int .i64 (z.1:Int)),(1,.int .i64 (z.2:Int))]) (fun z h' n' w=>h=h'∧n=n'∧w=[]∧z.2<9223372036854775808∧Nat.gcd z.1 z.2=Nat.gcd a b) (fun z=>z.2) (a,b) ⟨rfl,rfl,trivial⟩ ⟨rfl,rfl,rfl,hb,rfl⟩ (by show b<LL;unfold LL;omega) ?_
 rintro ⟨x,y⟩ t _ _ _ ⟨rfl,rfl,rfl,hy,hg⟩
 simp only at hy hg
 refine zN ?_
 by_cases hy0:y=0
 ·subst hy0
  repeat refine zR ?_
  refine zN ?_
  rw [za rfl]
  refine zN ?_
  repeat refine zR ?_
  refine zN ?_
  exact retF _ rfl (zh rfl) R2 (by rw [←hg,Nat.gcd_zero_right];rfl)
 repeat refine zR ?_
 refine zN ?_
 rw [zc rfl]
 refine zN ?_
 rw [xm rfl]
 refine zM ?_
 refine zM ?_
 refine zM ?_
 refine bi (a:=(x:Int)) (b:=(y:Int)) R6 zo ?_
 rw [show (x:Int).tmod (y:Int)=((x%y:Nat):Int) from rfl]
 repeat refine zR ?_
 refine zN ?_
 exact goOn (y,x%y) (Nat.mod_lt _ zo) ⟨rfl,rfl,trivial⟩ ⟨rfl,rfl,rfl,Nat.lt_trans (Nat.mod_lt _ zo) hy,by show Nat.gcd y (x%y)=_;rw [←hg,Nat.gcd_comm x y,Nat.gcd_rec y x,Nat.gcd_comm]⟩
def ShR (s:List UInt8)(v:Value):Prop:=∃(x y:Int) (ok:Bool),v=.tuple #[.agg #[.int .i64 x,.int .i64 y],.bool ok]∧(ok=true→∃q:Rat,ratT q=s∧x=q.num∧y=(q.den:Int)∧q.num.natAbs<1000000000∧q.den<1000000000)
theorem oL {s:List UInt8}(h:AllD s)(hl:s.length≤9):dval s<1000000000:=Nat.lt_of_lt_of_le (tP h) (Nat.le_trans (qJ hl) zd)
theorem og (k:Nat)(h:HF)(n:Nat)(s:List UInt8)(hs:s.length<1000000):VX (cal (k+5)) 87 [.string ⟨⟨s⟩⟩] h n (ShR s):=by
 refine zn (fn:=Tryz.f87) R4 ?_
 refine zN ?_
 refine xc R5 ?_
 repeat refine zR ?_
 refine zN ?_
 generalize hh:upd h (3*n+2) _=h1
 have hr2:∃e,h1 (3*n+2)=some (.row [.int .i64 0,.int .i64 0] e):=⟨_,by rw [←hh,ze];rfl⟩
 obtain ⟨e2,hr2⟩:=hr2
 have hx:Ext n h h1:=fun b hb=>by rw [←hh,zi zo]
 clear hh
 refine zM ?_
 refine st_I (ik:=.i64) (a:=(s.length:Int)) R5 ?_
 by_cases hl20:20<s.length
 ·repeat refine zR ?_
  refine zN ?_
  rw [zc rfl]
  refine zN ?_
  refine zA (v:=.agg #[.int .i64 0,.int .i64 0]) R4 rfl ?_
  refine zV [.int .i64 0,.int .i64 0] R8 hr2 rfl (by show 3*n≤3*n+2;omega) ?_
  repeat refine zR ?_
  refine zN ?_
  exact yq (.bool false) R6 (ze _ _ _) rfl zo (fun b hb=>(zi zo).trans (hx b hb)) ⟨_,_,false,rfl,fun h=>by cases h⟩
 repeat refine zR ?_
 refine zN ?_
 rw [za rfl]
 refine zN ?_
 refine zM ?_
 refine zr _ R5 (lb k h1 (n+1) s hs) ?_
 rintro _ h1s n2 _ ⟨rfl,hn2,hx1s,rfl⟩
 replace hr2:=(hx1s (3*n+2) zo).trans hr2
 replace hx:Ext n h h1s:=fun b hb=>(hx1s b zo).trans (hx b hb)
 have hfrm:(spl s).2.2=true→Frm s (spl s).1 (spl s).2.1:=fun e=>tr (by rw [←e])
 generalize (spl s).1=M at hfrm ⊢
 generalize (spl s).2.1=D at hfrm ⊢
 generalize (spl s).2.2=ok at hfrm ⊢
 generalize hmi:zO s=mi
 repeat refine zR ?_
 refine xc R5 ?_
 refine zV [.bool mi,.string ⟨⟨M⟩⟩,.string ⟨⟨D⟩⟩] R8 (ze _ _ _) rfl (by show 3*n≤3*n2+2;omega) ?_
 rw [wP]
 generalize hh:upd h1s (3*n2+2) _=h2
 replace hr2:h2 (3*n+2)=some (.row [.int .i64 0,.int .i64 0] e2):=by rw [←hh,zi zo];exact hr2
 have hr4:∃e,h2 (3*n2+2)=some (.row [.bool mi,.string ⟨⟨M⟩⟩,.string ⟨⟨D⟩⟩] e):=⟨_,by rw [←hh,ze]⟩
 obtain ⟨e4,hr4⟩:=hr4
 replace hx:Ext n h h2:=fun b hb=>by rw [←hh,zi zo,hx b hb]
 clear hh
 repeat refine zR ?_
 simp only [yC,xo,zF,xk]
 refine yN (α:=Bool) (fun z=>[(2,.pointer (some ⟨3*n+2,0,none⟩)),(4,.pointer (some ⟨3*n2+2,0,none⟩)),(29,.bool z)]) (fun z h' n' w=>h2=h'∧n'=n2+1∧w=[]∧(z=false→ok=true∧M.length≤9∧D.length≤9)) ?_ ?_
 ·refine zN ?_
  cases ok with
  |false=>
   repeat refine zR ?_
   refine zN ?_
   exact zP true ⟨rfl,rfl,rfl,trivial⟩ ⟨rfl,rfl,rfl,fun h=>by cases h⟩
  |true=>
  repeat refine zR ?_
  refine zL R6 hr4 (v:=.string ⟨⟨M⟩⟩) R2 ?_
  refine st_I (ik:=.i64) (a:=(M.length:Int)) R5 ?_
  by_cases hM9:9<M.length
  ·repeat refine zR ?_
   refine zN ?_
   exact zP true ⟨rfl,rfl,rfl,trivial⟩ ⟨rfl,rfl,rfl,fun h=>by cases h⟩
  repeat refine zR ?_
  refine zL R6 hr4 (v:=.string ⟨⟨D⟩⟩) R2 ?_
  refine st_I (ik:=.i64) (a:=(D.length:Int)) R5 ?_
  by_cases hD9:9<D.length
  ·repeat refine zR ?_
   refine zN ?_
   exact zP true ⟨rfl,rfl,rfl,trivial⟩ ⟨rfl,rfl,rfl,fun h=>by cases h⟩
  repeat refine zR ?_
  refine zN ?_
  exact zP false ⟨rfl,rfl,rfl,trivial⟩ ⟨rfl,rfl,rfl,fun _=>⟨by first|rfl|trivial,zo,zo⟩⟩
 rintro z t _ _ _ ⟨rfl,rfl,rfl,hz⟩
 cases z with
 |true=>
  rw [zc rfl]
  refine zN ?_
  refine zA (v:=.agg #[.int .i64 0,.int .i64 0]) R4 rfl ?_
  refine zV [.int .i64 0,.int .i64 0] R8 hr2 rfl (by show 3*n≤3*n+2;omega) ?_
  repeat refine zR ?_
  refine zN ?_
  exact yq (.bool false) R6 (ze _ _ _) rfl zo (fun b hb=>(zi zo).trans (hx b hb)) ⟨_,_,false,rfl,fun h=>by cases h⟩
 |false=>
 rw [za rfl]
 refine zN ?_
 obtain ⟨rfl,hM9,hD9⟩:=hz rfl
 have hf:=hfrm rfl
 have hMv:=oL hf.dm hM9
 have hDv:=oL hf.dd hD9
 clear hz hfrm
 repeat refine zR ?_
 refine zL R6 hr4 (v:=.string ⟨⟨M⟩⟩) R2 ?_
 refine z0 _ R5 (oQ (k+3) h2 (n2+1) M hf.dm hM9) ?_
 rintro _ rfl
 refine zA (v:=.agg #[.int .i64 ((dval M:Nat):Int),.int .i64 1]) R4 rfl ?_
 refine xc R5 ?_
 refine zV [.int .i64 ((dval M:Nat):Int),.int .i64 1] R8 (ze _ _ _) rfl (by show 3*n≤3*(n2+1)+2;omega) ?_
 rw [wP]
 generalize hh:upd h2 (3*(n2+1)+2) _=h3
 replace hr2:h3 (3*n+2)=some (.row [.int .i64 0,.int .i64 0] e2):=by rw [←hh,zi zo];exact hr2
 replace hr4:h3 (3*n2+2)=some (.row [.bool mi,.string ⟨⟨M⟩⟩,.string ⟨⟨D⟩⟩] e4):=by rw [←hh,zi zo];exact hr4
 have hr6:∃e,h3 (3*(n2+1)+2)=some (.row [.int .i64 ((dval M:Nat):Int),.int .i64 1] e):=⟨_,by rw [←hh,ze]⟩
 obtain ⟨e6,hr6⟩:=hr6
 replace hx:Ext n h h3:=fun b hb=>by rw [←hh,zi zo,hx b hb]
 clear hh
 refine zN ?_
 repeat refine zR ?_
 refine zL R6 hr4 (v:=.string ⟨⟨D⟩⟩) R2 ?_
 refine aJ (!(D==[])) rfl rfl rfl rfl rfl rfl rfl ?_
 simp only [yC,xo,zF,xk]
 refine yN (α:=Nat) (fun _=>[(2,.pointer (some ⟨3*n+2,0,none⟩)),(4,.pointer (some ⟨3*n2+2,0,none⟩)),(6,.pointer (some ⟨3*(n2+1)+2,0,none⟩))]) (fun z h' n' w=>w=[]∧n'=n2+1+1∧Ext n h h'∧h' (3*n+2)=some (.row [.int .i64 0,.int .i64 0] e2)∧h' (3*n2+2)=some (.row [.bool mi,.string ⟨⟨M⟩⟩,.string ⟨⟨D⟩⟩] e4)∧(∃e,h' (3*(n2+1)+2)=some (.row [.int .i64 ((dval M:Nat):Int),.int .i64 (z:Int)] e))∧z=(if D=[] then 1 else dval D)∧(D=[]∨Nat.gcd (dval M) (dval D)=1)) ?_ ?_
 ·by_cases hD:D=[]
  ·rw [za (by show Value.bool _=_;rw [hD];rfl)]
   refine zN ?_
   exact zP 1 ⟨rfl,rfl,rfl,trivial⟩ ⟨rfl,rfl,hx,hr2,hr4,⟨e6,hr6⟩,by rw [if_pos hD],.inl hD⟩
  rw [zc (by show Value.bool _=_;rw [show (D==[])=false from by simpa using hD];rfl)]
  refine zN ?_
  repeat refine zR ?_
  refine zL R6 hr4 (v:=.string ⟨⟨D⟩⟩) R2 ?_
  refine z0 _ R5 (oQ (k+3) h3 (n2+1+1) D hf.dd hD9) ?_
  rintro _ rfl
  repeat refine zR ?_
  refine yg (cs:=[.int .i64 ((dval D:Nat):Int)]) R8 hr6 zb (by show 3*n≤3*(n2+1)+2;omega) ?_
  generalize hh:upd h3 (3*(n2+1)+2) _=h4
  replace hr2:h4 (3*n+2)=some (.row [.int .i64 0,.int .i64 0] e2):=by rw [←hh,zi zo];exact hr2
  replace hr4:h4 (3*n2+2)=some (.row [.bool mi,.string ⟨⟨M⟩⟩,.string ⟨⟨D⟩⟩] e4):=by rw [←hh,zi zo];exact hr4
  replace hr6:h4 (3*(n2+1)+2)=some (.row [.int .i64 ((dval M:Nat):Int),.int .i64 ((dval D:Nat):Int)] e6):=by rw [←hh,ze];rfl
  replace hx:Ext n h h4:=fun b hb=>by rw [←hh,zi zo,hx b hb]
  clear hh
  refine zN ?_
  repeat refine zR ?_
  refine zL R6 hr6 (v:=.int .i64 ((dval M:Nat):Int)) R2 ?_
  repeat refine zR ?_
  refine zL R6 hr6 (v:=.int .i64 ((dval D:Nat):Int)) R2 ?_
  refine z0 _ R5 (gY (k+3) h4 (n2+1+1) (dval M) (dval D) zo) ?_
  rintro _ rfl
  by_cases hg:Nat.gcd (dval M) (dval D)=1
  ·repeat refine zR ?_
   refine zN ?_
   rw [za rfl]
   refine zN ?_
   exact zP (dval D) ⟨rfl,rfl,rfl,trivial⟩ ⟨rfl,rfl,hx,hr2,hr4,⟨e6,hr6⟩,by rw [if_neg hD],.inr hg⟩
  repeat refine zR ?_
  refine zN ?_
  rw [zc rfl]
  refine zN ?_
  refine zA (v:=.agg #[.int .i64 0,.int .i64 0]) R4 rfl ?_
  refine zV [.int .i64 0,.int .i64 0] R8 hr2 rfl (by show 3*n≤3*n+2;omega) ?_
  repeat refine zR ?_
  refine zN ?_
  exact yq (.bool false) R6 (ze _ _ _) rfl zo (fun b hb=>(zi zo).trans (hx b hb)) ⟨_,_,false,rfl,fun h=>by cases h⟩
 rintro z t h5 n5 _ ⟨rfl,rfl,hx,hr2,hr4,⟨e6,hr6⟩,hz,hg⟩
 obtain ⟨q,hq,hq1,hq2⟩:=hf.rat hg
 rw [←hz] at hq2
 rw [hmi] at hq1
 have hz9:z<1000000000:=by
  rw [hz]
  split
  ·decide
  exact hDv
 refine zN ?_
 repeat refine zR ?_
 refine zL R6 hr4 (v:=.bool mi) R2 ?_
 refine zN ?_
 cases mi with
 |true=>
  rw [zc rfl]
  refine zN ?_
  repeat refine zR ?_
  refine zL R6 hr6 (v:=.int .i64 ((dval M:Nat):Int)) R2 ?_
  refine st_I (ik:=.i64) (a:= -((dval M:Nat):Int)) ⟨rfl,rfl,rfl,rfl,(by show some (Value.int .i64 (IntKind.wrap .i64 _))=_;rw [yI zo,Int.zero_sub])⟩ ?_
  repeat refine zR ?_
  refine yg (cs:=[.int .i64 (-((dval M:Nat):Int))]) R8 hr6 zb (by show 3*n≤3*(n2+1)+2;omega) ?_
  generalize hh:upd h5 (3*(n2+1)+2) _=h6
  replace hr2:h6 (3*n+2)=some (.row [.int .i64 0,.int .i64 0] e2):=by rw [←hh,zi zo];exact hr2
  replace hr6:h6 (3*(n2+1)+2)=some (.row [.int .i64 (-((dval M:Nat):Int)),.int .i64 (z:Int)] e6):=by rw [←hh,ze];rfl
  replace hx:Ext n h h6:=fun b hb=>by rw [←hh,zi zo,hx b hb]
  clear hh
  refine zN ?_
  refine zQ (v:=.agg #[.int .i64 (-((dval M:Nat):Int)),.int .i64 (z:Int)]) R5 (yi R2 hr6 rfl zb rfl) ?_
  refine zV [.int .i64 (-((dval M:Nat):Int)),.int .i64 (z:Int)] R8 hr2 rfl (by show 3*n≤3*n+2;omega) ?_
  repeat refine zR ?_
  refine zN ?_
  refine yq (.bool true) R6 (ze _ _ _) rfl zo (fun b hb=>(zi zo).trans (hx b hb)) ⟨_,_,true,rfl,fun _=>⟨q,hq,?_,by rw [hq2],?_,by rw [hq2];exact hz9⟩⟩
  ·rw [hq1];rfl
  rw [hq1];simp only [if_true];omega
 |false=>
  rw [za rfl]
  refine zN ?_
  refine zQ (v:=.agg #[.int .i64 ((dval M:Nat):Int),.int .i64 (z:Int)]) R5 (yi R2 hr6 rfl zb rfl) ?_
  refine zV [.int .i64 ((dval M:Nat):Int),.int .i64 (z:Int)] R8 hr2 rfl (by show 3*n≤3*n+2;omega) ?_
  repeat refine zR ?_
  refine zN ?_
  refine yq (.bool true) R6 (ze _ _ _) rfl zo (fun b hb=>(zi zo).trans (hx b hb)) ⟨_,_,true,rfl,fun _=>⟨q,hq,?_,by rw [hq2],?_,by rw [hq2];exact hz9⟩⟩
  ·rw [hq1];rfl
  rw [hq1];simp only [Bool.false_eq_true,if_false];omega
end
section
variable {e ty ty':TypeId}{x y:Operand}{B D cap:Nat}{c0:List Value}{T:List Nat}
section
variable {X:CtxF}{ops r:List Oper}{t:TF}{h:HF}{n:Nat}{w:List Nat}{Q:SV→Prop}{o:Oper}{d:Tmp}
theorem bj {a b c:Int}(hw:zg ops t o=true∧o.dst=some d∧zj X.nt (some d)=true∧o.op=.binOp .quo ty x y ty'∧evF t x=.int .i64 a∧evF t y=.int .i64 b)(hr:b≠0)(hc:a.tdiv b=c)(hr2: -9223372036854775808≤c∧c<9223372036854775808)
  (k:EO X ops r ⟨upd t d (.int .i64 c),h,n,w⟩ Q):EO X ops (o::r) ⟨t,h,n,w⟩ Q:=by
 obtain ⟨hw,hd,hn,ho,hx,hy⟩:=hw
 refine zA ⟨hw,hd,hn,(by rw [ho];rfl)⟩ ?_ k
 rw [ho]
 show binE X.E .quo ty (evF t x) (evF t y)=_
 rw [hx,hy]
 have:ikEq .i64 .i64=true:=rfl
 simp only [binE,isSh,this,intE,if_neg hr,hc,yI hr2]
theorem zcb {a:Int}(hw:zg ops t o=true)(hd:o.dst=some d)(hn:zj X.nt (some d)=true)(ho:o.op=.unOp .neg ty x)(hx:evF t x=.int .i64 a)(hr: -9223372036854775808≤ -a∧ -a<9223372036854775808)
  (k:EO X ops r ⟨upd t d (.int .i64 (-a)),h,n,w⟩ Q):EO X ops (o::r) ⟨t,h,n,w⟩ Q:=by
 refine zA ⟨hw,hd,hn,(by rw [ho];rfl)⟩ ?_ k
 rw [ho]
 show unE .neg (evF t x)=_
 rw [hx]
 show some (Value.int .i64 (IntKind.wrap .i64 (0-a)))=_
 rw [show 0-a= -a by omega,yI hr]
end
theorem j8 (k:Nat){h:HF}(hG:GK.G h){n:Nat}(hn:20≤n)(hT:c0.take T.length=u8s T)(hB:60≤B∧B<3*n)(hrow:h B=some (.row c0 e))(hc0:cap=c0.length∧T.length+21≤cap∧cap<1000000){x:Int}(hx: -9223372036854775808≤x∧x<9223372036854775808):
  CF (cal (k+4)) 133 [.slice (some ⟨B,0,none⟩) T.length cap,.int .i64 x,.int .i64 10] h n fun v h' n' w=>BufT T h n B cap e c0 (intN x) v h' n' w:=by
 refine zn (fn:=Tryz.f133) R4 ?_
 obtain ⟨m,hm⟩:∃m,m=x.natAbs:=⟨_,rfl⟩
 refine zN ?_
 refine zM ?_
 refine zN ?_
 by_cases hneg:x<0
 ·have hi:intN x=[45]++decN m:=by unfold intN;rw [if_pos hneg,hm]
  refine zM ?_
  refine xH (ik:=.u64) (a:=((18446744073709551616-m:Nat):Int)) R6 ?_ ?_
  ·show some (Value.int .u64 (IntKind.wrap .u64 x))=_
   rw [show x= -(m:Int) from zo,t7 m zo]
  refine zM ?_
  refine zN ?_
  repeat refine zR ?_
  refine zN ?_
  rw [zc rfl]
  refine zN ?_
  refine zM ?_
  refine wB [.int .u8 45] (l:=1) (c:=1) R5 ?_
  intro h1 p1 x1
  have hrow1:=(x1 B hB.2).trans hrow
  refine yE R5 (uf (m:=1) R3 zb (xy p1 R2) zo ⟨rfl,Nat.le_refl _⟩ zo hrow1 zo rfl) ?_
  rw [rb (by show B<3*n;exact hB.2)]
  rw [show T.length+1=(T++[45]).length from by rw [List.length_append];rfl]
  obtain ⟨t1,t2⟩:=wm (N:=[45]) hT (by show T.length+1≤_;omega)
  have hG2:GK.G (upd h1 B (some (.row (zl c0 T.length [.int .u8 45]) e))):=G_fr hG fun b hb _=>(zi zo).trans (x1 b zo)
  refine zM ?_
  refine zN ?_
  refine zM ?_
  refine zA (v:=.int .u64 (m:Int)) R4 ?_ ?_
  ·show some (Value.int .u64 (IntKind.wrap .u64 (0-((18446744073709551616-m:Nat):Int))))=_
   rw [uK _ zo]
   congr 3
   omega
  refine zM ?_
  refine zN ?_
  refine zM ?_
  refine zM ?_
  refine zM ?_
  refine zr _ R5 (uI k hG2 (n:=n+1) zo (T:=T++[45]) (B:=B) (cap:=cap) (u:=m) t1 zo (ze _ _ _) ⟨by rw [t2];exact hc0.1,by rw [List.length_append];simp;omega,hc0.2.2⟩ zo) ?_
  rintro v h3 n3 w3 ⟨rfl,hn3,hw3,ho3,c3,hr3,hl3,ht3⟩
  refine zM ?_
  refine zN ?_
  refine retH [.slice (some ⟨B,0,none⟩) (T++[45]++decN m).length cap] R3 ⟨by rw [hi,←List.append_assoc];rfl,by show n≤n3;omega,fun b hb=>?_,fun b hb hne=>(ho3 b zo hne).trans ((zi hne).trans (x1 b hb)),c3,hr3,hl3.trans t2,by rw [hi,←List.append_assoc];exact ht3⟩
  rcases yr.1 hb with h|⟨h,_⟩
  ·exact List.mem_singleton.1 h
  exact hw3 b h
 have hi:intN x=decN m:=by unfold intN;rw [if_neg hneg,hm];rfl
 obtain rfl:x=(m:Int):=zo
 refine zM ?_
 refine uq (c:=m) R7 zo ?_
 refine zM ?_
 refine zN ?_
 repeat refine zR ?_
 refine zN ?_
 rw [za rfl]
 refine zN ?_
 refine zM ?_
 refine zM ?_
 refine zM ?_
 refine zr _ R5 (uI k hG hn (T:=T) (B:=B) (cap:=cap) (u:=m) hT zo hrow ⟨hc0.1,zo,hc0.2.2⟩ zo) ?_
 rintro v h3 n3 w3 ⟨rfl,hn3,hw3,ho3,c3,hr3,hl3,ht3⟩
 refine zM ?_
 refine zN ?_
 refine retH [.slice (some ⟨B,0,none⟩) (T++decN m).length cap] R3 ⟨by rw [hi];rfl,hn3,fun b hb=>?_,ho3,c3,hr3,hl3,by rw [hi];exact ht3⟩
 rcases yr.1 hb with h|⟨h,_⟩
 ·exact absurd h List.not_mem_nil
 exact hw3 b h
theorem qc (k:Nat){h:HF}(hG:GK.G h){n:Nat}(hn:20≤n)(hT:c0.take T.length=u8s T)(hB:60≤B∧B<3*n)(hrow:h B=some (.row c0 e))(hc0:cap=c0.length∧T.length+21≤cap∧cap<1000000){x:Int}(hx: -9223372036854775808≤x∧x<9223372036854775808):
  CF (cal (k+5)) 90 [.slice (some ⟨B,0,none⟩) T.length cap,.int .i64 x,.int .i64 10] h n fun v h' n' w=>BufT T h n B cap e c0 (intN x) v h' n' w:=by
 refine zn (fn:=Tryz.f90) R4 ?_
 refine zN ?_
 refine zM ?_
 refine zN ?_
 refine zM ?_
 refine zM ?_
 refine zM ?_
 refine zr _ R5 (j8 k hG hn hT hB hrow hc0 hx) ?_
 rintro v h3 n3 w3 ⟨rfl,hn3,hw3,ho3,c3,hr3,hl3,ht3⟩
 refine zM ?_
 refine zN ?_
 refine retH [.slice (some ⟨B,0,none⟩) (T++intN x).length cap] R3 ⟨rfl,hn3,fun b hb=>?_,ho3,c3,hr3,hl3,ht3⟩
 rcases yr.1 hb with h|⟨h,_⟩
 ·exact absurd h List.not_mem_nil
 exact hw3 b h
theorem oO (N:Int)(hD:0<D):(Rat.divInt N D).num=N.tdiv ((Nat.gcd N.natAbs D:Nat):Int)∧((Rat.divInt N D).den:Int)=(D:Int).tdiv ((Nat.gcd N.natAbs D:Nat):Int):=by
 have hg:0<Nat.gcd N.natAbs D:=Nat.gcd_pos_of_pos_right _ hD
 rw [Rat.divInt_ofNat,←Rat.normalize_eq_mkRat zo,Rat.normalize_eq]
 simp only
 refine ⟨?_,?_⟩
 ·rw [Int.tdiv_eq_ediv_of_dvd]
  exact Int.ofNat_dvd_left.2 (Nat.gcd_dvd_left _ _)
 rfl
theorem qM {x:Int}(hx: -9223372036854775808≤x∧x<9223372036854775808):(intN x).length≤21:=by
 have h1:(decN x.natAbs).length≤20:=by
  unfold decN
  split
  ·decide
  unfold decB;rw [List.length_map];exact we 20 _ zo
 unfold intN
 rw [List.length_append]
 split<;>simp<;>omega
theorem mq (k:Nat){h:HF}(hG:GK.G h){n:Nat}(hn:20≤n){N:Int}(hN: -9000000000000000000≤N∧N≤9000000000000000000)(hD:0<D∧D≤9000000000000000000):VF (cal (k+6)) 46 [.int .i64 N,.int .i64 (D:Int)] h n fun v=>v=.string ⟨⟨ratT (Rat.divInt N D)⟩⟩:=by
 refine zu (fn:=Tryz.f46) R4 ?_
 obtain ⟨e1,e2⟩:=oO N hD.1
 have hg:0<Nat.gcd N.natAbs D:=Nat.gcd_pos_of_pos_right _ hD.1
 have hgD:Nat.gcd N.natAbs D≤D:=Nat.le_of_dvd hD.1 (Nat.gcd_dvd_right _ _)
 generalize Rat.divInt N D=q at e1 e2 ⊢
 have hqD:(q.den:Int)≤D∧(0:Int)<q.den:=by
  refine ⟨?_,by have:=q.den_pos;omega⟩
  rw [e2]
  exact Int.ofNat_le.2 (Nat.div_le_self _ _)
 have hqN: -9000000000000000000≤q.num∧q.num≤9000000000000000000:=by
  have h1:q.num.natAbs≤N.natAbs:=by rw [e1,Int.natAbs_tdiv];exact Nat.div_le_self _ _
  omega
 refine zN ?_
 refine zM ?_
 refine zN ?_
 repeat refine zR ?_
 refine zN ?_
 rw [za rfl,yC,zF,xk]
 refine yN (α:=Unit) (fun _=>[(0,.int .i64 q.num),(1,.int .i64 (q.den:Int))]) (fun _ h' n' w=>h=h'∧n'=n∧w=[]) ?_ ?_
 ·refine zN ?_
  by_cases hD1:D=1
  ·subst hD1
   rw [Nat.gcd_one_right] at e1 e2
   repeat refine zR ?_
   refine zN ?_
   rw [za rfl]
   refine zN ?_
   exact zP () ⟨by rw [e1];simp;rfl,by rw [e2];rfl,trivial⟩ ⟨rfl,rfl,rfl⟩
  repeat refine zR ?_
  refine zN ?_
  rw [zc rfl]
  refine zN ?_
  refine zM ?_
  refine zM ?_
  refine zcb rfl rfl rfl rfl rfl zo ?_
  refine st_I (ik:=.i64) (a:=(N.natAbs:Int)) ⟨rfl,rfl,rfl,rfl,?_⟩ ?_
  ·show some (Value.int .i64 (if N< -N then -N else N))=_
   congr 2
   split<;>omega
  refine zM ?_
  refine z0 _ R5 (gY (k+4) _ _ N.natAbs D zo) ?_
  rintro _ rfl
  refine zM ?_
  refine zN ?_
  rw [xm rfl]
  refine zM ?_
  refine zM ?_
  refine bj (c:=q.num) R6 zo e1.symm zo ?_
  refine zM ?_
  refine zM ?_
  refine bj (c:=(q.den:Int)) R6 zo e2.symm zo ?_
  refine zM ?_
  refine zM ?_
  refine zN ?_
  exact zP () ⟨rfl,rfl,trivial⟩ ⟨rfl,rfl,rfl⟩
 rintro _ t _ n _ ⟨rfl,rfl,rfl⟩
 refine zN ?_
 by_cases hq1:q.den=1
 ·repeat refine zR ?_
  refine zN ?_
  rw [zc rfl]
  refine zN ?_
  refine zM ?_
  refine z0 _ R5 (qO (k+1) hG hn (x:=q.num) zo) ?_
  rintro _ rfl
  refine zM ?_
  refine zN ?_
  exact retF _ rfl (zh rfl) R2 (by rw [tE (yo.2 hq1)];rfl)
 have hz:¬denZ q=0:=mt yo.1 hq1
 repeat refine zR ?_
 refine zN ?_
 rw [za rfl]
 refine zN ?_
 refine wk (List.replicate 48 (.int .u8 0)) R6 ?_
 intro h1 p1 x1
 have hG1:=tg hG x1 hn
 have hl1:(intN q.num).length≤21:=qM zo
 refine zN ?_
 refine vW (j:=0) R8 rfl (zC n) zo ?_
 refine zM ?_
 refine zr _ R5 (qc k hG1 (n:=n+1) zo (T:=[]) (B:=3*n+2) (cap:=48) rfl zo p1 ⟨by rw [List.length_replicate],by show 0+21≤48;omega,zo⟩ (x:=q.num) zo) ?_
 rintro v h2 n2 w2 ⟨rfl,hn2,hw2,ho2,c2,hr2,hl2,ht2⟩
 rw [yf fun b hb=>by rw [hw2 b hb];show 3*n≤_;omega]
 rw [List.length_replicate] at hl2
 refine zM ?_
 refine zN ?_
 refine zM ?_
 refine wB [.int .u8 47] (l:=1) (c:=1) R5 ?_
 intro h3 p3 x3
 have hr3:=(x3 (3*n+2) zo).trans hr2
 refine yE R5 (uf (m:=1) R3 zb (xy p3 R2) (by show (([]++intN q.num).length+1)*1≤_;rw [List.nil_append];omega) ⟨rfl,Nat.le_refl _⟩ (by rw [List.nil_append];omega) hr3 (by rw [List.nil_append];omega) rfl) ?_
 rw [yf fun b hb=>by rw [List.mem_singleton.1 hb];show 3*n≤_;omega]
 rw [show (([]:List Nat)++intN q.num).length+1=(([]:List Nat)++intN q.num++[47]).length from by simp]
 obtain ⟨t1,t2⟩:=wm (N:=[47]) ht2 (by show ([]++intN q.num).length+1≤_;rw [List.nil_append];omega)
 generalize hh4:upd h3 (3*n+2) _=h4
 have hG4:GK.G h4:=by
  rw [←hh4]
  exact G_fr hG fun b hb _=>(zi zo).trans ((x3 b zo).trans ((ho2 b zo zo).trans (x1 b zo)))
 have hr4:∃e,h4 (3*n+2)=some (.row (zl c2 ([]++intN q.num).length [.int .u8 47]) e):=⟨_,by rw [←hh4];exact ze _ _ _⟩
 obtain ⟨e4,hr4⟩:=hr4
 have hl4:(intN (q.den:Int)).length≤21:=qM zo
 refine zM ?_
 refine zN ?_
 refine zM ?_
 refine zM ?_
 refine zr _ R5 (qc k hG4 (n:=n2+1) zo (T:=[]++intN q.num++[47]) (B:=3*n+2) (cap:=48) t1 zo hr4 ⟨by rw [t2,hl2],by rw [List.length_append,List.nil_append];simp;omega,zo⟩ (x:=(q.den:Int)) zo) ?_
 rintro v h5 n5 w5 ⟨rfl,hn5,hw5,ho5,c5,hr5,hl5,ht5⟩
 rw [yf fun b hb=>by rw [hw5 b hb];show 3*n≤_;omega]
 refine rk R5 (uP (B:=[]++intN q.num++[47]++intN (q.den:Int)) R3 (xV hr5 (by rw [List.drop_zero];exact ht5) (by rw [hl5,t2,hl2];simp only [List.length_append,List.nil_append,List.length_singleton];omega) (by simp only [List.length_append,List.nil_append,List.length_singleton];omega))) ?_
 refine zM ?_
 refine zN ?_
 refine retF _ rfl (zh rfl) R2 ?_
 show Value.string _=_
 rw [List.nil_append,oh hz,wz hz]
end
section
variable {h:HF}{n:Nat}{q:Rat}{s:List UInt8}
structure SR (s:List UInt8)(x y:Int):Prop where
 e1:x=(zm s).num
 e2:y=((zm s).den:Int)
 b1: -1000000000<x∧x<1000000000
 b2:0<y∧y<1000000000
theorem mul9 {a b:Int}(ha: -1000000000<a∧a<1000000000)(hb: -1000000000<b∧b<1000000000): -1000000000000000000≤a*b∧a*b≤1000000000000000000:=by
 have h:(a*b).natAbs≤1000000000*1000000000:=by
  rw [Int.natAbs_mul]
  exact Nat.mul_le_mul zo zo
 omega
theorem zcw {a b:Int}(ha:0<a∧a<1000000000)(hb:0<b∧b<1000000000):0<a*b∧a*b≤1000000000000000000:=⟨Int.mul_pos ha.1 hb.1,(mul9 ⟨zo,ha.2⟩ ⟨zo,hb.2⟩).2⟩
theorem qI (k:Nat)(h:HF)(n:Nat)(s:List UInt8)(hs:s.length<1000000):CX (cal (k+5)) 87 [.string ⟨⟨s⟩⟩] h n fun v _ _=>∃x y ok,v=.tuple #[.agg #[.int .i64 x,.int .i64 y],.bool ok]∧(ok=true→SR s x y):=by
 refine xJ (og k h n s hs) ?_
 rintro v h' n' w ⟨h1,h2,h3,x,y,ok,rfl,hq⟩
 refine ⟨h1,h2,h3,x,y,ok,rfl,fun ho=>?_⟩
 obtain ⟨q,e,rfl,rfl,b1,b2⟩:=hq ho
 rw [←sV e] at*
 have:=(zm s).den_pos
 exact ⟨rfl,rfl,zo,zo⟩
theorem oG (k:Nat)(g:GG h n){N D:Int}(hN: -9000000000000000000≤N∧N≤9000000000000000000)(hD:0<D∧D≤9000000000000000000):CX (cal (k+6)) 46 [.int .i64 N,.int .i64 D] h n fun v _ _=>v=.string ⟨⟨ratT (Rat.divInt N D)⟩⟩:=by
 obtain ⟨d,rfl⟩:∃d:Nat,D=(d:Int):=⟨D.toNat,zo⟩
 exact (mq k g.1 g.2 hN ⟨zo,zo⟩).cx
theorem cD (k:Nat)(h:HF)(n:Nat)(a b:Int):CX (cal (k+3)) 50 [.int .i64 a,.int .i64 b] h n fun v _ _=>∃s:Int,v=.int .i64 s∧(s= -1∧a<b∨s=0∧a=b∨s=1∧b<a):=by
 refine VF.cx (P:=fun v=>∃s:Int,v=.int .i64 s∧(s= -1∧a<b∨s=0∧a=b∨s=1∧b<a)) ?_
 refine zu (fn:=Tryz.f50) R4 ?_
 refine zN ?_
 repeat refine zR ?_
 refine zN ?_
 refine zM ?_
 refine zM ?_
 refine z0 _ R5 (fS k _ _ a b) ?_
 rintro _ rfl
 refine zM ?_
 refine zN ?_
 refine retF _ rfl (zh rfl) R2 ⟨_,rfl,?_⟩
 unfold cmpI
 rcases Int.lt_trichotomy a b with h|h|h
 ·exact .inl ⟨if_pos h,h⟩
 ·exact .inr (.inl ⟨by rw [if_neg zo,if_neg zo],h⟩)
 exact .inr (.inr ⟨by rw [if_neg zo,if_pos h],h⟩)
theorem SR.add {a b:List UInt8}{x y u v:Int}(p:SR a x y)(q:SR b u v):Rat.divInt (x*v+u*y) (y*v)=zm a+zm b:=by
 rw [p.e1,p.e2,q.e1,q.e2,Rat.add_def',←Rat.divInt_ofNat,Int.natCast_mul]
theorem SR.mul {a b:List UInt8}{x y u v:Int}(p:SR a x y)(q:SR b u v):Rat.divInt (x*u) (y*v)=zm a*zm b:=by
 rw [p.e1,p.e2,q.e1,q.e2,Rat.mul_def',←Rat.divInt_ofNat,Int.natCast_mul]
theorem SR.cmp {a b:List UInt8}{x y u v:Int}(p:SR a x y)(q:SR b u v):(x*v<u*y↔zm a<zm b)∧(x*v=u*y↔zm a=zm b)∧(u*y<x*v↔zm b<zm a):=by
 rw [p.e1,p.e2,q.e1,q.e2]
 have h:=pF (zm a) (zm b)
 exact ⟨h.1.symm,h.2.1.symm,h.2.2.symm⟩
theorem TL.ratT (h:Sz 1890 q):TL (ratT q):=by
 have key:∀V,V<2^1890→(decT V).length≤570:=fun V hV=>by
  unfold decT
  split
  ·decide
  rw [List.length_map,kh]
  exact we 570 V (Nat.lt_of_lt_of_le hV (by decide+kernel))
 refine ⟨?_,fun m d e=>?_⟩
 ·have h1:=key _ h.1
  have h2:=key _ h.2
  unfold Go.Proofs.YtlmbghgklnmlkaaGreatDoor.ratT
  simp only [List.length_append]
  split<;>split<;>simp<;>omega
 rw [sR] at e
 injection e with e1 e2
 injection e2 with e2 _
 subst e1 e2
 refine ⟨key _ h.1,?_⟩
 split
 ·exact Nat.zero_le _
 exact key _ h.2
theorem pf (k:Nat){a b:List UInt8}(ha:a.length<1000000)(hb:b.length<1000000):CX (cal (k+6)) 45 [.string ⟨⟨a⟩⟩,.string ⟨⟨b⟩⟩] h n fun v _ _=>∃x y u t ok,v=.tuple #[.agg #[.int .i64 x,.int .i64 y],.agg #[.int .i64 u,.int .i64 t],.bool ok]∧(ok=true→SR a x y∧SR b u t):=by
 refine zn (fn:=Tryz.f45) R4 ?_
 refine zG ?_
 refine sA ?_
 intro h11 p11 x11
 refine sA ?_
 intro h12 p12 x12
 refine zG ?_
 refine sC (qI _ _ _ a ha) ?_
 rintro _ h13 n13 ⟨sx13,sy13,ok13,rfl,m13⟩ y13 x13
 cases ok13
 ·refine zG ?_
  refine sA ?_
  intro h14 p14 x14
  refine sS [.int .i64 sx13,.int .i64 sy13] ?_
  intro h15 p15 o15
  refine zG ?_
  refine sT #[.int .i64 0,.int .i64 0] ?_
  refine sT #[.int .i64 0,.int .i64 0] ?_
  refine sS [.int .i64 0,.int .i64 0] ?_
  intro h16 p16 o16
  refine sS [.int .i64 0,.int .i64 0] ?_
  intro h17 p17 o17
  refine zq ?_
  exact ⟨_,_,_,_,_,rfl,fun hq=>(by cases hq)⟩
 have m13:=m13 rfl
 refine zG ?_
 refine sA ?_
 intro h18 p18 x18
 refine sS [.int .i64 sx13,.int .i64 sy13] ?_
 intro h19 p19 o19
 refine zG ?_
 refine sC (qI _ _ _ b hb) ?_
 rintro _ h20 n20 ⟨sx20,sy20,ok20,rfl,m20⟩ y20 x20
 cases ok20
 ·refine zG ?_
  refine sA ?_
  intro h21 p21 x21
  refine sS [.int .i64 sx20,.int .i64 sy20] ?_
  intro h22 p22 o22
  refine zG ?_
  refine sT #[.int .i64 0,.int .i64 0] ?_
  refine sT #[.int .i64 0,.int .i64 0] ?_
  refine sS [.int .i64 0,.int .i64 0] ?_
  intro h23 p23 o23
  refine sS [.int .i64 0,.int .i64 0] ?_
  intro h24 p24 o24
  refine zq ?_
  exact ⟨_,_,_,_,_,rfl,fun hq=>(by cases hq)⟩
 have m20:=m20 rfl
 refine zG ?_
 refine sA ?_
 intro h25 p25 x25
 refine sS [.int .i64 sx20,.int .i64 sy20] ?_
 intro h26 p26 o26
 refine zG ?_
 refine zB [0,0,1,7,15] rfl ?_
 refine zH ?_
 refine dS [.int .i64 sx13,.int .i64 sy13] ?_
 intro h27 p27 o27
 refine dS [.int .i64 sx20,.int .i64 sy20] ?_
 intro h28 p28 o28
 refine zq ?_
 exact ⟨_,_,_,_,_,rfl,fun _=>⟨m13,m20⟩⟩
theorem qp (k:Nat)(g:GG h n)(hs:TL s):CX (cal (k+10)) 47 [.string ⟨⟨s⟩⟩] h n (QV (zm s)):=by
 refine zn (fn:=Tryz.f47) R4 ?_
 refine zG ?_
 refine sA ?_
 intro h11 p11 x11
 refine zG ?_
 refine sC (zcj _ (g.x zx) hs) ?_
 rintro _ h12 n12 ⟨b12,a12,l12,c12,d12,e12,f12,g12,ok12,rfl,i12,j12,m12⟩ y12 x12
 refine zG ?_
 refine sA ?_
 intro h13 p13 x13
 refine sS [.bool b12,.slice a12 l12 c12,.bool d12,.slice e12 f12 g12] ?_
 intro h14 p14 o14
 refine zG ?_
 refine sS [.bool b12,.slice a12 l12 c12,.bool d12,.slice e12 f12 g12] ?_
 intro h15 p15 o15
 refine zq ?_
 exact ⟨_,_,_,_,_,_,_,_,rfl,(i12.t zt),(j12.t zt)⟩
theorem addS (k:Nat)(g:GG h n){a b:List UInt8}(ha:TL a)(hb:TL b){p q r:Nat}(sa:Sz p (zm a))(sb:Sz q (zm b))(hpq:p+q+1≤2496)(sr:Sz r (zm a+zm b))(hr:r≤1920):VF (cal (k+11)) 21 [.string ⟨⟨a⟩⟩,.string ⟨⟨b⟩⟩] h n fun v=>v=.string ⟨⟨ratT (zm a+zm b)⟩⟩:=by
 refine zu (fn:=Tryz.f21) R4 ?_
 refine zG ?_
 refine sC (pf _ ha.1 hb.1) ?_
 rintro _ h11 n11 ⟨sx11,sy11,su11,sv11,ok11,rfl,m11⟩ y11 x11
 cases ok11
 ·refine zG ?_
  refine sA ?_
  intro h12 p12 x12
  refine sA ?_
  intro h13 p13 x13
  refine sS [.int .i64 sx11,.int .i64 sy11] ?_
  intro h14 p14 o14
  refine sS [.int .i64 su11,.int .i64 sv11] ?_
  intro h15 p15 o15
  refine zG ?_
  refine sC (qp _ (g.x zx) ha) ?_
  rintro _ h16 n16 ⟨b16,a16,l16,c16,d16,e16,f16,g16,rfl,i16,j16⟩ y16 x16
  refine zG ?_
  refine sC (qp _ (g.x zx) hb) ?_
  rintro _ h17 n17 ⟨b17,a17,l17,c17,d17,e17,f17,g17,rfl,i17,j17⟩ y17 x17
  refine sC (addQ _ (g.x zx) (i16.t zt) (j16.t zt) i17 j17 sa sb zo) ?_
  rintro _ h18 n18 ⟨b18,a18,l18,c18,d18,e18,f18,g18,rfl,i18,j18⟩ y18 x18
  refine sC ((vC _ (g.x zx).1 (g.x zx).2 i18 j18 sr hr).cx) ?_
  rintro _ h19 n19 rfl y19 x19
  refine zf ?_
  exact rfl
 obtain ⟨p11,q11⟩:=m11 rfl
 have d11:=p11.b1
 have e11:=p11.b2
 have f11:=q11.b1
 have g11:=q11.b2
 refine zG ?_
 refine sA ?_
 intro h20 p20 x20
 refine sA ?_
 intro h21 p21 x21
 refine sS [.int .i64 sx11,.int .i64 sy11] ?_
 intro h22 p22 o22
 refine sS [.int .i64 su11,.int .i64 sv11] ?_
 intro h23 p23 o23
 refine zG ?_
 have b24:=mul9 (a:=sx11) (b:=sv11) zo zo
 refine st_mul rfl rfl rfl rfl rfl rfl zo ?_
 refine zG ?_
 have b25:=mul9 (a:=su11) (b:=sy11) zo zo
 refine st_mul rfl rfl rfl rfl rfl rfl zo ?_
 refine zG ?_
 have b26:=zcw (a:=sy11) (b:=sv11) zo zo
 refine st_mul rfl rfl rfl rfl rfl rfl zo ?_
 refine sC (oG _ (g.x zx) (N:=((sx11*sv11)+(su11*sy11))) (D:=(sy11*sv11)) zo zo) ?_
 rintro _ h27 n27 rfl y27 x27
 refine zf ?_
 exact by rw [SR.add p11 q11];rfl
theorem mulS (k:Nat)(g:GG h n){a b:List UInt8}(ha:TL a)(hb:TL b){p q r:Nat}(sa:Sz p (zm a))(sb:Sz q (zm b))(hpq:p+q+1≤2496)(sr:Sz r (zm a*zm b))(hr:r≤1920):VF (cal (k+11)) 22 [.string ⟨⟨a⟩⟩,.string ⟨⟨b⟩⟩] h n fun v=>v=.string ⟨⟨ratT (zm a*zm b)⟩⟩:=by
 refine zu (fn:=Tryz.f22) R4 ?_
 refine zG ?_
 refine sC (pf _ ha.1 hb.1) ?_
 rintro _ h11 n11 ⟨sx11,sy11,su11,sv11,ok11,rfl,m11⟩ y11 x11
 cases ok11
 ·refine zG ?_
  refine sA ?_
  intro h12 p12 x12
  refine sA ?_
  intro h13 p13 x13
  refine sS [.int .i64 sx11,.int .i64 sy11] ?_
  intro h14 p14 o14
  refine sS [.int .i64 su11,.int .i64 sv11] ?_
  intro h15 p15 o15
  refine zG ?_
  refine sC (qp _ (g.x zx) ha) ?_
  rintro _ h16 n16 ⟨b16,a16,l16,c16,d16,e16,f16,g16,rfl,i16,j16⟩ y16 x16
  refine zG ?_
  refine sC (qp _ (g.x zx) hb) ?_
  rintro _ h17 n17 ⟨b17,a17,l17,c17,d17,e17,f17,g17,rfl,i17,j17⟩ y17 x17
  refine sC (mulQ _ (g.x zx) (i16.t zt) (j16.t zt) i17 j17 sa sb zo) ?_
  rintro _ h18 n18 ⟨b18,a18,l18,c18,d18,e18,f18,g18,rfl,i18,j18⟩ y18 x18
  refine sC ((vC _ (g.x zx).1 (g.x zx).2 i18 j18 sr hr).cx) ?_
  rintro _ h19 n19 rfl y19 x19
  refine zf ?_
  exact rfl
 obtain ⟨p11,q11⟩:=m11 rfl
 have d11:=p11.b1
 have e11:=p11.b2
 have f11:=q11.b1
 have g11:=q11.b2
 refine zG ?_
 refine sA ?_
 intro h20 p20 x20
 refine sA ?_
 intro h21 p21 x21
 refine sS [.int .i64 sx11,.int .i64 sy11] ?_
 intro h22 p22 o22
 refine sS [.int .i64 su11,.int .i64 sv11] ?_
 intro h23 p23 o23
 refine zG ?_
 have b24:=mul9 (a:=sx11) (b:=su11) zo zo
 refine st_mul rfl rfl rfl rfl rfl rfl zo ?_
 refine zG ?_
 have b25:=zcw (a:=sy11) (b:=sv11) zo zo
 refine st_mul rfl rfl rfl rfl rfl rfl zo ?_
 refine sC (oG _ (g.x zx) (N:=(sx11*su11)) (D:=(sy11*sv11)) zo zo) ?_
 rintro _ h26 n26 rfl y26 x26
 refine zf ?_
 exact by rw [SR.mul p11 q11];rfl
theorem cmpS (k:Nat)(g:GG h n){a b:List UInt8}(ha:TL a)(hb:TL b){p q:Nat}(sa:Sz p (zm a))(sb:Sz q (zm b))(hpq:p+q+1≤2496):VF (cal (k+11)) 23 [.string ⟨⟨a⟩⟩,.string ⟨⟨b⟩⟩] h n fun v=>∃s:Int,v=.int .i64 s∧(s= -1∧zm a<zm b∨s=0∧zm a=zm b∨s=1∧zm b<zm a):=by
 refine zu (fn:=Tryz.f23) R4 ?_
 refine zG ?_
 refine sC (pf _ ha.1 hb.1) ?_
 rintro _ h11 n11 ⟨sx11,sy11,su11,sv11,ok11,rfl,m11⟩ y11 x11
 cases ok11
 ·refine zG ?_
  refine sA ?_
  intro h12 p12 x12
  refine sA ?_
  intro h13 p13 x13
  refine sS [.int .i64 sx11,.int .i64 sy11] ?_
  intro h14 p14 o14
  refine sS [.int .i64 su11,.int .i64 sv11] ?_
  intro h15 p15 o15
  refine zG ?_
  refine sC (qp _ (g.x zx) ha) ?_
  rintro _ h16 n16 ⟨b16,a16,l16,c16,d16,e16,f16,g16,rfl,i16,j16⟩ y16 x16
  refine zG ?_
  refine sC (qp _ (g.x zx) hb) ?_
  rintro _ h17 n17 ⟨b17,a17,l17,c17,d17,e17,f17,g17,rfl,i17,j17⟩ y17 x17
  refine sC ((wJ _ (i16.t zt) (j16.t zt) i17 j17 sa sb zo).cx) ?_
  rintro _ h18 n18 ⟨s18,rfl,q18⟩ y18 x18
  rcases q18 with ⟨rfl,q18⟩|⟨rfl,q18⟩|⟨rfl,q18⟩
  ·refine zf ?_
   exact ⟨_,rfl,.inl ⟨rfl,q18⟩⟩
  ·refine zf ?_
   exact ⟨_,rfl,.inr (.inl ⟨rfl,q18⟩)⟩
  refine zf ?_
  exact ⟨_,rfl,.inr (.inr ⟨rfl,q18⟩)⟩
 obtain ⟨p11,q11⟩:=m11 rfl
 have d11:=p11.b1
 have e11:=p11.b2
 have f11:=q11.b1
 have g11:=q11.b2
 refine zG ?_
 refine sA ?_
 intro h19 p19 x19
 refine sA ?_
 intro h20 p20 x20
 refine sS [.int .i64 sx11,.int .i64 sy11] ?_
 intro h21 p21 o21
 refine sS [.int .i64 su11,.int .i64 sv11] ?_
 intro h22 p22 o22
 refine zG ?_
 have b23:=mul9 (a:=sx11) (b:=sv11) zo zo
 refine st_mul rfl rfl rfl rfl rfl rfl zo ?_
 refine zG ?_
 have b24:=mul9 (a:=su11) (b:=sy11) zo zo
 refine st_mul rfl rfl rfl rfl rfl rfl zo ?_
 refine sC (cD _ _ _ _ _) ?_
 rintro _ h25 n25 ⟨s25,rfl,q25⟩ y25 x25
 refine zf ?_
 exact ⟨_,rfl,by have c:=p11.cmp q11;rw [c.1,c.2.1,c.2.2] at q25;exact q25⟩
end
section
variable {h h':HF}{b cap k l len lo' m n n' sz:Nat}{a:Option Addr}{S:List (List UInt8)}{s:List UInt8}{v:Value}{c cs:List Value}{e:TypeId}
theorem iN (l:List (List UInt8)):(strs l).length=l.length*1:=by simp [strs]
theorem gu (l:List (List UInt8)):ones (strs l)=true:=by
 induction l with
 |nil=>rfl
 |cons e l ih=>exact ih
theorem bp (k:Nat)(hs:Sl h n 1 (.slice a len cap) (strs S))(hb:S.length<1000000):
  CX (cal (k+1)) 27 [.slice a len cap] h n fun v h' n'=>Gr0 h' n n' 9 1 v S.length (strs S):=by
 refine zn (fn:=Tryz.f27) R4 ?_
 have e1:=zI hs
 subst e1
 refine zN ?_
 repeat refine zR ?_
 refine zN ?_
 refine qw (cs:=[]) R5 ?_
 generalize hh:upd h (3*n+2) _=h1
 have hx1:Ext n h h1:=by rw [←hh];exact Ext.upd zo
 clear hh
 refine zM ?_
 refine i6 (lo:=n) R8 zd (.emp (Nat.le_refl _) (Nat.lt_succ_self _)) (uG (hs.ext hx1 zs)) zo (iN _) (gu _) (by show n≤n∧_;omega) ?_
 intro v h3 n3 hn3 hg hx3 _ _
 rw [Nat.zero_add,List.nil_append] at hg
 obtain ⟨av,rfl,_⟩:=hg.shape
 refine zM ?_
 refine zN ?_
 exact retX [.slice av S.length S.length] R3 (show n≤n3 by omega) (hx1.trans hx3 (Nat.le_refl _)) hg
def fitL (l:List (List UInt8))(n:Nat)(s:List UInt8):List (List UInt8):=(l++List.replicate (n-l.length) s).take n
theorem xN (l:List (List UInt8))(n:Nat)(s:List UInt8):(fitL l n s).length=n:=by
 unfold fitL
 rw [List.length_take,List.length_append,List.length_replicate]
 omega
theorem dR {l:List (List UInt8)}{x:List UInt8}(h:x∈fitL l n s):x∈l∨x=s:=by
 rcases List.mem_append.1 (List.mem_of_mem_take h) with h|h
 ·exact .inl h
 exact .inr (List.eq_of_mem_replicate h)
def SSE (lo:Nat)(h:HF)(n:Nat)(v:Value)(L:List (List UInt8)):Prop:=Sl h n 1 v (strs L)∧∀ad len cap,v=.slice (some ad) len cap→3*lo≤ad.block∧(len≠0→∃cs,h ad.block=some (.row cs 9))
theorem SSE.of_gr0 {lo:Nat}(g:Gr0 h lo n 9 1 v len c){T:List (List UInt8)}(hc:c=strs T)(hm:m≤len)(hv:v=.slice a l k):SSE lo h n (.slice a m k) (T.take m):=by
 have ht:∀(x:List Value),x=strs T→x.take m=strs (T.take m):=fun x e=>by rw [e];unfold strs;rw [List.map_take]
 cases g with
 |gro g=>
  cases g with
  |nil=>
   cases hv
   have h0:m=0:=zo
   subst h0
   exact ⟨.nil (.inl rfl),fun ad l c e=>by cases e⟩
  |at_ hg hlo hb hr hl ho=>
   cases hv
   refine ⟨.at_ hb hr rfl hm zo (by rw [List.drop_zero,Nat.mul_one];exact ht _ hc),fun ad l c e=>?_⟩
   cases e
   exact ⟨hlo,fun _=>⟨_,hr⟩⟩
 | @emp m2 hlo hm2=>
  cases hv
  have h0:m=0:=zo
  subst h0
  refine ⟨.nil (.inr ⟨_,_,_,rfl,zo⟩),fun ad l c e=>?_⟩
  cases e
  exact ⟨by show 3*lo≤3*m2+2;omega,fun h=>absurd rfl h⟩
theorem SSE.go {lo:Nat}{L:List (List UInt8)}(s:SSE lo h n v L)(hk:∀b cs,3*lo≤b→b<3*n→h b=some (.row cs 9)→h' b=h b)(hn:n≤n'):SSE lo h' n' v L:=by
 obtain ⟨s,f⟩:=s
 generalize hcl:strs L=cl at s
 cases s with
 |nil ha=>exact ⟨by rw [hcl];exact .nil (wp ha hn),fun ad len cap e=>by cases e;exact ⟨(f _ _ _ rfl).1,fun h=>absurd rfl h⟩⟩
 | @at_ b off len cap x cs cells hb hx hc hcap hl he=>
  by_cases h0:len=0
  ·subst h0
   have h1:cl=[]:=by rw [←he];simp
   subst h1
   exact ⟨by rw [hcl];exact .nil (.inr ⟨_,_,_,rfl,zo⟩),fun ad len cap e=>by cases e;exact ⟨(f _ _ _ rfl).1,fun h=>absurd rfl h⟩⟩
  obtain ⟨f1,f2⟩:=f _ _ _ rfl
  obtain ⟨cs2,f3⟩:=f2 h0
  have f4:=hk _ _ f1 hb f3
  exact ⟨by rw [hcl];exact .at_ zo (f4.trans hx) hc hcap hl he,fun ad len cap e=>by cases e;exact ⟨f1,fun _=>⟨_,f4.trans f3⟩⟩⟩
theorem SSE.ext {lo:Nat}{L:List (List UInt8)}(s:SSE lo h n v L)(x:Ext n h h')(hn:n≤n'):SSE lo h' n' v L:=s.go (fun b _ _ hb _=>x b hb) hn
theorem SSE.x {lo:Nat}{L:List (List UInt8)}(g:SSE lo h n v L)(t:Tx n h n' h'):SSE lo h' n' v L:=g.ext t.2 t.1
theorem SSE.st {lo:Nat}{L:List (List UInt8)}(s:SSE lo h n v L)(_:h b=some (.row cs e))(_:cs.all nu=true)(ho:Only b h h')(hb:b<3*lo):SSE lo h' n v L:=s.go (fun k _ hk _ _=>ho k zo) (Nat.le_refl _)
theorem SSE.sto {lo:Nat}{L:List (List UInt8)}(g:SSE lo h n v L)(o:Sto b h h')(hb:b<3*lo):SSE lo h' n v L:=by
 obtain ⟨o,_,_,hp,hu⟩:=o
 exact g.st hp hu o hb
theorem SSE.ss {lo:Nat}{L:List (List UInt8)}(s:SSE lo h n v L):Sl h n 1 v (strs L):=s.1
theorem SSE.lo {lo:Nat}{L:List (List UInt8)}(s:SSE lo h n v L)(hl:lo'≤lo):SSE lo' h n v L:=⟨s.1,fun ad len cap e=>⟨by have:=(s.2 ad len cap e).1;omega,(s.2 ad len cap e).2⟩⟩
def jd (lo:Nat)(c:List Value)(d:RowD)(h:HF)(n:Nat):Prop:=∃a l k,c=[.slice a l k,.string ⟨⟨d.lo⟩⟩,.string ⟨⟨d.hi⟩⟩]∧SSE lo h n (.slice a l k) d.A
structure GRW (lo:Nat)(h:HF)(n:Nat)(v:Value)(ds:List RowD):Prop where
 ex:∃C,Gro h lo n 45 3 v ds.length C∧Rec 3 (fun c d=>jd lo c d h n) C ds
theorem GRW.nil (lo:Nat)(h:HF)(n:Nat):GRW lo h n (.slice none 0 0) []:=⟨[],.nil,.nil⟩
theorem GRW.ext {lo:Nat}{ds:List RowD}(g:GRW lo h n v ds)(x:Ext n h h')(hn:n≤n'):GRW lo h' n' v ds:=by
 obtain ⟨C,h1,h2⟩:=g.ex
 exact ⟨C,h1.ext x hn,h2.mono fun c d ⟨a,l,k,e,s⟩=>⟨a,l,k,e,s.ext x hn⟩⟩
theorem GRW.x {lo:Nat}{ds:List RowD}(g:GRW lo h n v ds)(t:Tx n h n' h'):GRW lo h' n' v ds:=g.ext t.2 t.1
theorem GRW.st {lo:Nat}{ds:List RowD}(g:GRW lo h n v ds)(hp:h b=some (.row cs e))(hu:cs.all nu=true)(ho:Only b h h')(hb:b<3*lo):GRW lo h' n v ds:=by
 obtain ⟨C,h1,h2⟩:=g.ex
 exact ⟨C,h1.same fun k hk _ _=>ho k zo,h2.mono fun c d ⟨a,l,k,e,s⟩=>⟨a,l,k,e,s.st hp hu ho hb⟩⟩
theorem GRW.sto {lo:Nat}{ds:List RowD}(g:GRW lo h n v ds)(o:Sto b h h')(hb:b<3*lo):GRW lo h' n v ds:=by
 obtain ⟨o,_,_,hp,hu⟩:=o
 exact g.st hp hu o hb
theorem GRW.lo {lo:Nat}{ds:List RowD}(g:GRW lo h n v ds)(hl:lo'≤lo):GRW lo' h n v ds:=by
 obtain ⟨C,h1,h2⟩:=g.ex
 refine ⟨C,?_,h2.mono fun c d ⟨a,l,k,e,s⟩=>⟨a,l,k,e,s.lo hl⟩⟩
 generalize ds.length=m at h1 ⊢
 cases h1 with
 |nil=>exact .nil
 |at_ hg hlo hb hr hl2 ho=>exact .at_ hg zo hb hr hl2 ho
theorem GRW.rws {lo:Nat}{ds:List RowD}(g:GRW lo h n v ds):RWS h n v ds:=by
 obtain ⟨C,h1,h2⟩:=g.ex
 exact ⟨C,h1.sl,h2.mono fun c d ⟨a,l,k,e,s⟩=>⟨a,l,k,e,s.1⟩⟩
theorem SSE.keep {lo lo2:Nat}{u:Value}{L:List (List UInt8)}{C:List Value}(s:SSE lo h n v L)(g:Gro h lo2 n 45 3 u len C)(k:Keep u n h h')(hn:n≤n'):SSE lo h' n' v L:=
 s.go (fun b cs hb hb2 hr=>by
  refine k b hb2 fun o l c e=>?_
  cases g with
  |nil=>cases e
  |at_ hg hlo hb3 hr2 hl2 ho=>
   cases e
   rw [hr] at hr2
   injection hr2 with hr2
   injection hr2 with _ hr2
   exact absurd hr2 zd) hn
theorem GRW.app {lo:Nat}{v':Value}{ds:List RowD}{d:RowD}{C:List Value}(h1:Gro h lo n 45 3 v ds.length C)(h2:Rec 3 (fun c d=>jd lo c d h n) C ds)(s:jd lo c d h n)(k:Keep v n h h')(g:Gro h' lo (n+1) 45 3 v' (ds.length+1) (C++c)):GRW lo h' (n+1) v' (ds++[d]):=by
 have hk:∀c d,jd lo c d h n→jd lo c d h' (n+1):=fun c d ⟨a,l,m,e,s⟩=>⟨a,l,m,e,s.keep h1 k zs⟩
 refine ⟨C++c,by rw [List.length_append];exact g,(h2.mono hk).snoc ?_ (hk _ _ s)⟩
 obtain ⟨a,l,m,rfl,_⟩:=s
 rfl
theorem Gr0.slice {lo:Nat}(g:Gr0 h lo n e sz (.slice a l k) len c):l=len∧k=len∧(a=none∨∃b,a=some ⟨b,0,none⟩):=by
 cases g with
 |gro g=>
  cases g with
  |nil=>exact ⟨rfl,rfl,.inl rfl⟩
  |at_ hg hlo hb hr hl ho=>exact ⟨rfl,rfl,.inr ⟨_,rfl⟩⟩
 |emp hlo hm=>exact ⟨rfl,rfl,.inr ⟨_,rfl⟩⟩
theorem qP (k:Nat)(hs:Sl h n 1 (.slice a len cap) (strs S))(hb:S.length<1000000)(hm:m<1000000)(s:List UInt8):
  CX (cal (k+2)) 10 [.slice a len cap,.int .i64 (m:Int),.string ⟨⟨s⟩⟩] h n fun v h' n'=>∃a c,v=.slice a m c∧SSE n h' n' (.slice a m c) (fitL S m s):=by
 refine zn (fn:=Tryz.f10) R4 ?_
 have e1:=zI hs
 subst e1
 refine zN ?_
 repeat refine zR ?_
 refine zN ?_
 refine zM ?_
 refine na R5 (bp k hs hb) ?_
 intro v h1 n1 g1 hn1 x1
 obtain ⟨a1,rfl,_⟩:=g1.shape
 refine zM ?_
 refine zN ?_
 refine zZ (α:=Option Addr×Nat) (fun z=>[(1,.int .i64 (m:Int)),(2,.string ⟨⟨s⟩⟩),(7,.slice z.1 (S.length+z.2) (S.length+z.2))]) (fun z h' n' w'=>w'=[]∧n≤n'∧Ext n h h'∧Gr0 h' n n' 9 1 (.slice z.1 (S.length+z.2) (S.length+z.2)) (S.length+z.2) (strs (S++List.replicate z.2 s))∧(z.2=0∨S.length+z.2≤m)) (fun z=>m-(S.length+z.2))
  (a1,0) ⟨rfl,rfl,rfl,trivial⟩ ⟨rfl,hn1,x1,by rw [List.replicate_zero,List.append_nil];exact g1,.inl rfl⟩ (by show m-(S.length+0)<LL;unfold LL;omega) ?_
 rintro ⟨av,j⟩ t h2 n2 _ ⟨rfl,hn2,x2,g2,hj⟩
 simp only at g2 hj
 refine zN ?_
 by_cases hc:S.length+j<m
 ·repeat refine zR ?_
  refine zN ?_
  rw [zc rfl]
  refine zN ?_
  refine zM ?_
  refine zM ?_
  refine wB [.string ⟨⟨s⟩⟩] (l:=1) (c:=1) R5 ?_
  intro h3 p3 x3
  refine i6 (lo:=n) (m:=1) R8 zd (g2.ext x3 zs) (xy p3 R2) zo rfl rfl (by show n≤n∧_;omega) ?_
  intro v h4 n4 hn4 g4 x4 _ _
  obtain ⟨a4,rfl,_⟩:=g4.shape
  refine zM ?_
  refine zN ?_
  refine goOn (a4,j+1) (by show m-(S.length+(j+1))<m-(S.length+j);omega) ⟨rfl,rfl,rfl,trivial⟩ ⟨rfl,(by show n≤n4;have:n2+1≤n4:=hn4;omega),(x2.trans (x3.mono hn2) (Nat.le_refl _)).trans x4 (Nat.le_refl _),?_,.inr (by show S.length+(j+1)≤m;omega)⟩
  rw [List.replicate_succ',←List.append_assoc,no]
  exact g4
 repeat refine zR ?_
 refine zN ?_
 rw [za rfl]
 refine zN ?_
 refine zM ?_
 refine zM ?_
 have hf:(S++List.replicate j s).take m=fitL S m s:=by
  unfold fitL
  rcases hj with hj|hj
  ·subst hj;rw [show m-S.length=0 by omega]
  rw [show m-S.length=j by omega]
 have hr:=SSE.of_gr0 g2 rfl (m:=m) zo rfl
 rw [hf] at hr
 rcases g2.slice.2.2 with e|⟨b,e⟩
 ·subst e
  refine nq m R9 zo ?_
  refine zM ?_
  refine zN ?_
  exact retX [.slice none m (S.length+j)] R3 hn2 x2 ⟨_,_,rfl,hr⟩
 subst e
 refine tq m R8 rfl zo ?_
 refine zM ?_
 refine zN ?_
 exact retX [.slice (some ⟨b,0,none⟩) m (S.length+j)] R3 hn2 x2 ⟨_,_,rfl,hr⟩
end
section
variable {h:HF}{b co cr cu cw cx lo lr lu lw lx n:Nat}{ao ar au aw ax:Option Addr}{p:LPD}{S:List (List UInt8)}
theorem jg (k:Nat)(g:GG h n)(io:Sl h n 1 (.slice ao lo co) (strs p.obj))(ir:RWS h n (.slice ar lr cr) p.rows)(iw:Sl h n 1 (.slice aw lw cw) (strs p.lower))(iu:Sl h n 1 (.slice au lu cu) (strs p.upper)){a:Nat}(hp:LPB a p)(ha:a+a≤2000)(ix:Sl h n 1 (.slice ax lx cx) (strs S))(hS:∀s∈S,Txt b s)(hSl:S.length<1000000):CX (cal (k+13)) 28 [.agg #[.slice ao lo co,.slice ar lr cr,.slice aw lw cw,.slice au lu cu],.slice ax lx cx] h n fun v h' n'=>∃aO lO kO aR lR kR aC lC kC aX lX kX e,v=.tuple #[.agg #[.slice aO lO kO,.slice aR lR kR,.slice aC lC kC],.slice aX lX kX,.int .i64 e]∧(e=1∧¬(VLP p∧allN S)∨e=4∧(VLP p∧allN S)∧S.length≠p.obj.length∨e=0∧(VLP p∧allN S)∧S.length=p.obj.length∧QS h' n' (.slice aO lO kO) (p.obj.map zm)∧SDS h' n' (.slice aR lR kR) (xF p)∧SDS h' n' (.slice aC lC kC) (wj p)∧QS h' n' (.slice aX lX kX) (S.map zm)):=by
 have lo1:=zI io
 have lr1:=ir.len
 have lw1:=zI iw
 have lu1:=zI iu
 have lx1:=zI ix
 refine zn (fn:=Tryz.f28) R4 ?_
 refine zG ?_
 refine sB [.slice ao lo co,.slice ar lr cr,.slice aw lw cw,.slice au lu cu] ?_
 intro h11 p11 x11
 refine sA ?_
 intro h12 p12 x12
 refine zG ?_
 refine sC (zcl _ (g.x zx) (io.x zx) (ir.x zx) (iw.x zx) (iu.x zx) hp ha) ?_
 rintro _ h13 n13 ⟨aO13,lO13,kO13,aR13,lR13,kR13,aC13,lC13,kC13,ok13,rfl,bm13,q13⟩ y13 x13
 rcases bvs bm13 with ⟨rfl,m13⟩|⟨rfl,m13⟩
 ·refine zG ?_
  refine sA ?_
  intro h14 p14 x14
  refine sS [.slice aO13 lO13 kO13,.slice aR13 lR13 kR13,.slice aC13 lC13 kC13] ?_
  intro h15 p15 o15
  refine zG ?_
  refine sC (xf _ (g.x zx) (ix.x zx) (fun s hs=>(hS s hs).1) hSl) ?_
  rintro _ h16 n16 ⟨a16,l16,c16,ok16,rfl,bm16,q16⟩ y16 x16
  rcases bvs bm16 with ⟨rfl,m16⟩|⟨rfl,m16⟩
  ·refine zG ?_
   refine sT #[.slice none 0 0,.slice none 0 0,.slice none 0 0] ?_
   refine sS [.slice none 0 0,.slice none 0 0,.slice none 0 0] ?_
   intro h17 p17 o17
   refine zq ?_
   exact ⟨_,_,_,_,_,_,_,_,_,_,_,_,_,rfl,.inl ⟨rfl,fun hq=>absurd hq.1 m13⟩⟩
  have i16:=q16 rfl
  have w16:=i16.1.len
  rw [List.length_map] at w16
  refine zG ?_
  refine sT #[.slice none 0 0,.slice none 0 0,.slice none 0 0] ?_
  refine sS [.slice none 0 0,.slice none 0 0,.slice none 0 0] ?_
  intro h18 p18 o18
  have i19:=i16.sto o18 zo
  refine zq ?_
  exact ⟨_,_,_,_,_,_,_,_,_,_,_,_,_,rfl,.inl ⟨rfl,fun hq=>absurd hq.1 m13⟩⟩
 obtain ⟨iO13,iR13,iC13⟩:=q13 rfl
 refine zG ?_
 refine sA ?_
 intro h20 p20 x20
 refine sS [.slice aO13 lO13 kO13,.slice aR13 lR13 kR13,.slice aC13 lC13 kC13] ?_
 intro h21 p21 o21
 refine zG ?_
 refine sC (xf _ (g.x zx) (ix.x zx) (fun s hs=>(hS s hs).1) hSl) ?_
 rintro _ h22 n22 ⟨a22,l22,c22,ok22,rfl,bm22,q22⟩ y22 x22
 rcases bvs bm22 with ⟨rfl,m22⟩|⟨rfl,m22⟩
 ·refine zG ?_
  refine sT #[.slice none 0 0,.slice none 0 0,.slice none 0 0] ?_
  refine sS [.slice none 0 0,.slice none 0 0,.slice none 0 0] ?_
  intro h23 p23 o23
  have i24:=(iO13.x zx).sto o23 zo
  have i25:=(iR13.x zx).sto o23 zo
  have i26:=(iC13.x zx).sto o23 zo
  refine zq ?_
  exact ⟨_,_,_,_,_,_,_,_,_,_,_,_,_,rfl,.inl ⟨rfl,fun hq=>absurd hq.2 m22⟩⟩
 have i22:=q22 rfl
 have w22:=i22.1.len
 rw [List.length_map] at w22
 refine zG ?_
 by_cases q27:(lx:Int)=(lo:Int)
 ·refine zG ?_
  refine sS [.slice aO13 lO13 kO13,.slice aR13 lR13 kR13,.slice aC13 lC13 kC13] ?_
  intro h28 p28 o28
  have i29:=(iO13.x zx).sto o28 zo
  have i30:=(iR13.x zx).sto o28 zo
  have i31:=(iC13.x zx).sto o28 zo
  have i32:=i22.sto o28 zo
  refine zq ?_
  exact ⟨_,_,_,_,_,_,_,_,_,_,_,_,_,rfl,.inr (.inr ⟨rfl,⟨m13,m22⟩,zo,i29.1,i30.sds,i31.sds,i32.1⟩)⟩
 refine zG ?_
 refine sT #[.slice none 0 0,.slice none 0 0,.slice none 0 0] ?_
 refine sS [.slice none 0 0,.slice none 0 0,.slice none 0 0] ?_
 intro h33 p33 o33
 have i34:=(iO13.x zx).sto o33 zo
 have i35:=(iR13.x zx).sto o33 zo
 have i36:=(iC13.x zx).sto o33 zo
 have i37:=i22.sto o33 zo
 refine zq ?_
 exact ⟨_,_,_,_,_,_,_,_,_,_,_,_,_,rfl,.inr (.inl ⟨rfl,⟨m13,m22⟩,zo⟩)⟩
end
section
variable {h:HF}{b co cr cu cw cx cy lo lr lu lw lx ly n:Nat}{ao ar au aw ax ay:Option Addr}{p:LPD}{R S:List (List UInt8)}
theorem zd9 (k:Nat)(g:GG h n)(io:Sl h n 1 (.slice ao lo co) (strs p.obj))(ir:RWS h n (.slice ar lr cr) p.rows)(iw:Sl h n 1 (.slice aw lw cw) (strs p.lower))(iu:Sl h n 1 (.slice au lu cu) (strs p.upper)){a:Nat}(hp:LPB a p)(ha:a+a≤2000)(ix:Sl h n 1 (.slice ax lx cx) (strs S))(hS:∀s∈S,Txt b s)(hSl:S.length<1000000)(hL:p.obj.length*(a+b+1)+a+b+2≤1900)(ha2:a≤90):VF (cal (k+14)) 13 [.agg #[.slice ao lo co,.slice ar lr cr,.slice aw lw cw,.slice au lu cu],.slice ax lx cx] h n fun v=>v=feaV p S:=by
 have lo1:=zI io
 have lr1:=ir.len
 have lw1:=zI iw
 have lu1:=zI iu
 have lx1:=zI ix
 refine zu (fn:=Tryz.f13) R4 ?_
 refine zG ?_
 refine sB [.slice ao lo co,.slice ar lr cr,.slice aw lw cw,.slice au lu cu] ?_
 intro h11 p11 x11
 refine zG ?_
 refine sC (jg _ (g.x zx) (io.x zx) (ir.x zx) (iw.x zx) (iu.x zx) hp ha (ix.x zx) hS hSl) ?_
 rintro _ h12 n12 ⟨aO12,lO12,kO12,aR12,lR12,kR12,aC12,lC12,kC12,aX12,lX12,kX12,e12,rfl,m12⟩ y12 x12
 rcases m12 with ⟨rfl,m12⟩|⟨rfl,m12,l12⟩|⟨rfl,m12,l12,iO12,iR12,iC12,iX12⟩
 ·refine zG ?_
  refine sA ?_
  intro h13 p13 x13
  refine sS [.slice aO12 lO12 kO12,.slice aR12 lR12 kR12,.slice aC12 lC12 kC12] ?_
  intro h14 p14 o14
  refine zf ?_
  exact zed m12
 ·refine zG ?_
  refine sA ?_
  intro h15 p15 x15
  refine sS [.slice aO12 lO12 kO12,.slice aR12 lR12 kR12,.slice aC12 lC12 kC12] ?_
  intro h16 p16 o16
  refine zf ?_
  exact zec m12 l12
 refine zG ?_
 refine sA ?_
 intro h17 p17 x17
 refine sS [.slice aO12 lO12 kO12,.slice aR12 lR12 kR12,.slice aC12 lC12 kC12] ?_
 intro h18 p18 o18
 refine zG ?_
 refine sC ((zeh _ (g.x zx) (iO12.x zx) (iR12.x zx) (iC12.x zx) (iX12.x zx) (LPB.rows hp) (LPB.cols hp) (m12.1.rwb hp) (Txt.nums hS) (by rw [List.length_map,m12.1.cols];omega) (by rw [List.length_map];omega) ⟨by rw [m12.1.cols];exact hp.n1,by rw [yV];exact hp.n2⟩ hL zo).cx) ?_
 rintro _ h19 n19 ⟨b19,rfl,bq19⟩ y19 x19
 rcases bvs bq19 with ⟨rfl,q19⟩|⟨rfl,q19⟩
 ·refine zf ?_
  exact zeb m12 l12 q19
 refine zf ?_
 exact zea m12 l12 q19
theorem fZ {a:Nat}{C:List (List UInt8)}(hv:VLP p)(hp:LPB a p)(hR:∀s∈R,Txt b s)(hC:∀s∈C,Txt b s)(hl:R.length=p.rows.length∧C.length=p.obj.length):Sz (1+p.rows.length*(a+b+1)+p.obj.length*(a+b+1)) (bndQ p R C):=by
 have h1:=qY (LPB.rows hp) (Txt.nums hR) (xF p).length (Nat.le_refl _) (by rw [List.length_map,yV];omega)
 rw [List.take_length,yV] at h1
 have h2:=nk (LPB.cols hp) (Txt.nums hC) h1 (wj p).length (Nat.le_refl _) (by rw [List.length_map,hv.cols];omega)
 rw [List.take_length,hv.cols] at h2
 unfold bndQ
 rw [yV,hv.cols]
 exact h2.mono zo
theorem zdh (k:Nat)(g:GG h n)(io:Sl h n 1 (.slice ao lo co) (strs p.obj))(ir:RWS h n (.slice ar lr cr) p.rows)(iw:Sl h n 1 (.slice aw lw cw) (strs p.lower))(iu:Sl h n 1 (.slice au lu cu) (strs p.upper)){a:Nat}(hp:LPB a p)(ha:a+a≤2000){az:Option Addr}{lz cz:Nat}{C:List (List UInt8)}(iy:Sl h n 1 (.slice ay ly cy) (strs R))(iz:Sl h n 1 (.slice az lz cz) (strs C))(hR:∀s∈R,Txt b s)(hRl:R.length<1000000)(hC:∀s∈C,Txt b s)(hCl:C.length<1000000)(hL:p.rows.length*(a+b+1)+p.obj.length*(a+b+1)+a+b+2≤1900):VF (cal (k+13)) 15 [.agg #[.slice ao lo co,.slice ar lr cr,.slice aw lw cw,.slice au lu cu],.slice ay ly cy,.slice az lz cz] h n fun v=>v=bndV p R C:=by
 have lo1:=zI io
 have lr1:=ir.len
 have lw1:=zI iw
 have lu1:=zI iu
 have ly1:=zI iy
 have lz1:=zI iz
 refine zu (fn:=Tryz.f15) R4 ?_
 refine zG ?_
 refine sB [.slice ao lo co,.slice ar lr cr,.slice aw lw cw,.slice au lu cu] ?_
 intro h11 p11 x11
 refine zG ?_
 refine sC (zcl _ (g.x zx) (io.x zx) (ir.x zx) (iw.x zx) (iu.x zx) hp ha) ?_
 rintro _ h12 n12 ⟨aO12,lO12,kO12,aR12,lR12,kR12,aC12,lC12,kC12,ok12,rfl,bm12,q12⟩ y12 x12
 rcases bvs bm12 with ⟨rfl,m12⟩|⟨rfl,m12⟩
 ·refine zG ?_
  refine sA ?_
  intro h13 p13 x13
  refine sS [.slice aO12 lO12 kO12,.slice aR12 lR12 kR12,.slice aC12 lC12 kC12] ?_
  intro h14 p14 o14
  refine zG ?_
  refine sC (xf _ (g.x zx) (iy.x zx) (fun s hs=>(hR s hs).1) hRl) ?_
  rintro _ h15 n15 ⟨a15,l15,c15,ok15,rfl,bm15,q15⟩ y15 x15
  rcases bvs bm15 with ⟨rfl,m15⟩|⟨rfl,m15⟩
  ·refine zG ?_
   refine sC (xf _ (g.x zx) (iz.x zx) (fun s hs=>(hC s hs).1) hCl) ?_
   rintro _ h16 n16 ⟨a16,l16,c16,ok16,rfl,bm16,q16⟩ y16 x16
   rcases bvs bm16 with ⟨rfl,m16⟩|⟨rfl,m16⟩
   ·refine zf ?_
    exact mH (fun hq=>absurd hq.1 m12)
   have i16:=q16 rfl
   have w16:=i16.1.len
   rw [List.length_map] at w16
   refine zf ?_
   exact mH (fun hq=>absurd hq.1 m12)
  have i15:=q15 rfl
  have w15:=i15.1.len
  rw [List.length_map] at w15
  refine zG ?_
  refine sC (xf _ (g.x zx) (iz.x zx) (fun s hs=>(hC s hs).1) hCl) ?_
  rintro _ h17 n17 ⟨a17,l17,c17,ok17,rfl,bm17,q17⟩ y17 x17
  rcases bvs bm17 with ⟨rfl,m17⟩|⟨rfl,m17⟩
  ·refine zf ?_
   exact mH (fun hq=>absurd hq.1 m12)
  have i17:=q17 rfl
  have w17:=i17.1.len
  rw [List.length_map] at w17
  refine zf ?_
  exact mH (fun hq=>absurd hq.1 m12)
 obtain ⟨iO12,iR12,iC12⟩:=q12 rfl
 refine zG ?_
 refine sA ?_
 intro h18 p18 x18
 refine sS [.slice aO12 lO12 kO12,.slice aR12 lR12 kR12,.slice aC12 lC12 kC12] ?_
 intro h19 p19 o19
 refine zG ?_
 refine sC (xf _ (g.x zx) (iy.x zx) (fun s hs=>(hR s hs).1) hRl) ?_
 rintro _ h20 n20 ⟨a20,l20,c20,ok20,rfl,bm20,q20⟩ y20 x20
 rcases bvs bm20 with ⟨rfl,m20⟩|⟨rfl,m20⟩
 ·refine zG ?_
  refine sC (xf _ (g.x zx) (iz.x zx) (fun s hs=>(hC s hs).1) hCl) ?_
  rintro _ h21 n21 ⟨a21,l21,c21,ok21,rfl,bm21,q21⟩ y21 x21
  rcases bvs bm21 with ⟨rfl,m21⟩|⟨rfl,m21⟩
  ·refine zf ?_
   exact mH (fun hq=>absurd hq.2.1 m20)
  have i21:=q21 rfl
  have w21:=i21.1.len
  rw [List.length_map] at w21
  refine zf ?_
  exact mH (fun hq=>absurd hq.2.1 m20)
 have i20:=q20 rfl
 have w20:=i20.1.len
 rw [List.length_map] at w20
 refine zG ?_
 refine sC (xf _ (g.x zx) (iz.x zx) (fun s hs=>(hC s hs).1) hCl) ?_
 rintro _ h22 n22 ⟨a22,l22,c22,ok22,rfl,bm22,q22⟩ y22 x22
 rcases bvs bm22 with ⟨rfl,m22⟩|⟨rfl,m22⟩
 ·refine zf ?_
  exact mH (fun hq=>absurd hq.2.2 m22)
 have i22:=q22 rfl
 have w22:=i22.1.len
 rw [List.length_map] at w22
 refine zG ?_
 by_cases q23:(ly:Int)=(lr:Int)
 ·refine zG ?_
  by_cases q24:(lz:Int)=(lo:Int)
  ·refine zG ?_
   refine sC (zdg _ (g.x zx) (iO12.x zx).1 (iR12.x zx).sds (iC12.x zx).sds (i20.x zx).1 i22.1 (LPB.rows hp) (LPB.cols hp) (Txt.nums hR) (Txt.nums hC) (by rw [List.length_map,yV];omega) (by rw [List.length_map,m12.cols];omega) (by rw [yV,m12.cols];omega)) ?_
   rintro _ h25 n25 ⟨b25,a25,l25,c25,d25,e25,f25,g25,ok25,rfl,bm25,q25⟩ y25 x25
   rcases bvs bm25 with ⟨rfl,m25⟩|⟨rfl,m25⟩
   ·refine zG ?_
    refine sA ?_
    intro h26 p26 x26
    refine sS [.bool b25,.slice a25 l25 c25,.bool d25,.slice e25 f25 g25] ?_
    intro h27 p27 o27
    refine zf ?_
    exact zeg ⟨m12,m20,m22⟩ zo m25
   obtain ⟨i25,j25⟩:=q25 rfl
   have i25:IW h25 n25 b25 a25 l25 c25 (bndQ p R C).num:=i25
   have j25:IW h25 n25 d25 e25 f25 g25 (denZ (bndQ p R C)):=j25
   refine zG ?_
   refine sA ?_
   intro h28 p28 x28
   refine sS [.bool b25,.slice a25 l25 c25,.bool d25,.slice e25 f25 g25] ?_
   intro h29 p29 o29
   refine zG ?_
   refine sC ((vC _ (g.x zx).1 (g.x zx).2 (i25.t zt) (j25.t zt) (fZ m12 hp hR hC zo) zo).cx) ?_
   rintro _ h30 n30 rfl y30 x30
   refine zf ?_
   exact zef ⟨m12,m20,m22⟩ zo m25
  refine zf ?_
  exact zdj ⟨m12,m20,m22⟩ zo
 refine zf ?_
 exact zdj ⟨m12,m20,m22⟩ zo
end
section
end
section
variable {s:List UInt8}{p:LPD}{a a1 a2:Option Addr}{b cap j l l1 l2:Nat}{e:TypeId}{R S:List (List UInt8)}
theorem gL (V:Nat):V<10^(decT V).length:=by
 have h:∀V,V<10^(decD V).length:=by
  intro V
  induction V using Nat.strongRecOn with
  |_ V ih=>
   by_cases h0:V=0
   ·subst h0;rw [yM];exact Nat.one_pos
   rw [xA h0,List.length_append]
   have:=ih (V/10) zo
   rw [show (decD (V/10)).length+[V%10].length=(decD (V/10)).length+1 from rfl,Nat.pow_succ]
   omega
 unfold decT
 split
 ·rename_i h0;rw [h0];decide
 rw [List.length_map,kh];exact h V
theorem Txt.of {m a:Nat}(h:s.length≤m)(hm:m<500)(ha:10^m≤2^a)(h1:1≤a):Txt a s:=by
 refine ⟨zo,?_⟩
 by_cases hn:wu s
 ·have he:=tL hn
  generalize zm s=q at he
  have hl:=congrArg List.length he
  unfold ratT at hl
  simp only [List.length_append] at hl
  constructor
  ·exact Nat.lt_of_lt_of_le (Nat.lt_of_lt_of_le (gL _) (Nat.pow_le_pow_right zd (show _≤m by omega))) ha
  by_cases h2:q.den=1
  ·rw [h2];exact Nat.lt_of_lt_of_le (by decide:(1:Nat)<2^1) (Nat.pow_le_pow_right zd h1)
  rw [if_neg h2,List.length_cons] at hl
  exact Nat.lt_of_lt_of_le (Nat.lt_of_lt_of_le (gL _) (Nat.pow_le_pow_right zd (show _≤m by omega))) ha
 rw [xM hn];exact Sz.zero a h1
theorem txt8 (h:(s.length:Int)≤8):Txt 27 s:=.of (m:=8) zo zd zd zd
theorem kH (h:(s.length:Int)≤12):Txt 40 s:=.of (m:=12) zo zd zd zd
def zae (r:RowD):Prop:=r.A.length≤7∧(∀s∈r.A,(s.length:Int)≤8)∧∀s∈[r.lo,r.hi],(s.length:Int)≤8
structure SmlP (p:LPD):Prop where
 n1:p.obj.length≤5
 n2:p.rows.length≤6
 n3:p.lower.length≤7
 n4:p.upper.length≤7
 ob:∀s∈p.obj,(s.length:Int)≤8
 lw:∀s∈p.lower,(s.length:Int)≤8
 up:∀s∈p.upper,(s.length:Int)≤8
 rw:∀r∈p.rows,zae r
theorem SmlP.lpb (h:SmlP p):LPB 27 p:=
 ⟨fun s hs=>txt8 (h.ob s hs),fun s hs=>txt8 (h.lw s hs),fun s hs=>txt8 (h.up s hs),fun r hr=>⟨txt8 ((h.rw r hr).2.2 _ (by simp)),txt8 ((h.rw r hr).2.2 _ (by simp)),by have:=(h.rw r hr).1;omega,fun s hs=>txt8 ((h.rw r hr).2.1 s hs)⟩,by have:=h.n1;omega,by have:=h.n2;omega,by have:=h.n3;omega,by have:=h.n4;omega⟩
def aF (n:Nat)(r:RowD):RowD:=⟨fitL r.A n [48],r.lo,r.hi⟩
def xZ (p:LPD):List RowD:=p.rows.map (aF p.obj.length)
def tj (p:LPD):LPD:=⟨p.obj,xZ p,fitL p.lower p.obj.length [],fitL p.upper p.obj.length []⟩
theorem kJ {i:Nat}{r:RowD}(h:p.rows[i]?=some r):(xZ p)[i]?=some (aF p.obj.length r):=by unfold xZ;rw [List.getElem?_map,h];rfl
theorem xP (p:LPD):(xZ p).length=p.rows.length:=by unfold xZ;rw [List.length_map]
theorem yS {l:List (List UInt8)}{n:Nat}{m:Int}(h:∀x∈l,(x.length:Int)≤m)(hs:(s.length:Int)≤m):∀x∈fitL l n s,(x.length:Int)≤m:=fun x hx=>by
 rcases dR hx with h1|h1
 ·exact h x h1
 rw [h1];exact hs
theorem SmlP.tidy (h:SmlP p):SmlP (tj p):=
 ⟨h.n1,by show (xZ p).length≤6;rw [xP];exact h.n2,by show (fitL _ _ _).length≤7;rw [xN];have:=h.n1;omega,by show (fitL _ _ _).length≤7;rw [xN];have:=h.n1;omega,h.ob,yS h.lw zd,yS h.up zd,fun r hr=>by
  obtain ⟨r2,hr2,rfl⟩:=List.mem_map.1 hr
  exact ⟨by show (fitL _ _ _).length≤7;rw [xN];have:=h.n1;omega,yS (h.rw r2 hr2).2.1 zd,(h.rw r2 hr2).2.2⟩⟩
def slP (c:List Value)(S:List (List UInt8))(h:HF)(n:Nat):Prop:=∃a l k,c=[.slice a l k]∧Sl h n 1 (.slice a l k) (strs S)
def SLS (h:HF)(n:Nat)(v:Value)(LL:List (List (List UInt8))):Prop:=RS 1 slP h n v LL
theorem SLS.len {h:HF}{n:Nat}{len:Nat}{LL:List (List (List UInt8))}(r:SLS h n (.slice a len cap) LL):len=LL.length:=RS.len' zd r
theorem SLS.at {h:HF}{n:Nat}{len:Nat}{LL:List (List (List UInt8))}{d:List (List UInt8)}(r:SLS h n (.slice a len cap) LL)(hj:LL[j]?=some d):∃bb off a2 l2 k2,a=some ⟨bb,off,none⟩∧bb<3*n∧j<len∧At h bb (off+j*1) [.slice a2 l2 k2]∧Sl h n 1 (.slice a2 l2 k2) (strs d):=by
 obtain ⟨bb,off,c,p1,p2,p3,p4,_,a2,l2,k2,rfl,s⟩:=RS.at' zd r hj
 exact ⟨bb,off,a2,l2,k2,p1,p2,p3,p4,s⟩
theorem SLS.three {h:HF}{n:Nat}{a3:Option Addr}{k1 k2 l3 k3:Nat}{C:List (List UInt8)}(hp:h b=some (.row [.slice a1 l1 k1,.slice a2 l2 k2,.slice a3 l3 k3] e))(hb:b<3*n)(h1:Sl h n 1 (.slice a1 l1 k1) (strs S))(h2:Sl h n 1 (.slice a2 l2 k2) (strs R))(h3:Sl h n 1 (.slice a3 l3 k3) (strs C)):SLS h n (.slice (some ⟨b,0,none⟩) 3 3) [S,R,C]:=
 ⟨_,.at_ hb hp rfl (Nat.le_refl _) (Nat.le_refl _) rfl,.cons (c:=[_]) rfl ⟨_,_,_,rfl,h1⟩ (.cons (c:=[_]) rfl ⟨_,_,_,rfl,h2⟩ (.cons (c:=[_]) (cs:=[]) rfl ⟨_,_,_,rfl,h3⟩ .nil))⟩
theorem zcd {h:HF}{n:Nat}{t:List UInt8}(hp:h b=some (.row [.string ⟨⟨s⟩⟩,.string ⟨⟨t⟩⟩] e))(hb:b<3*n):Sl h n 1 (.slice (some ⟨b,0,none⟩) 2 2) (strs [s,t]):=.at_ hb hp rfl (Nat.le_refl _) (Nat.le_refl _) rfl
theorem wq (k:Nat){h:HF}{n:Nat}(g:GG h n):VF (cal (k+1)) 8 [] h n fun v=>v=.bool true:=⟨_,_,_,_,fV k g.1 n,rfl,rfl,rfl,rfl⟩
theorem zan (k:Nat){h:HF}{n:Nat}{len:Nat}(hs:Sl h n 1 (.slice a len cap) (strs S))(hb:S.length<1000000):
  CX (cal (k+1)) 27 [.slice a len cap] h n fun v h' n'=>∃a l c,v=.slice a l c∧SSE n h' n' (.slice a l c) S:=
 (bp k hs hb).mono fun v h' n' g=>by
  obtain ⟨av,rfl,_⟩:=g.shape
  have:=SSE.of_gr0 g rfl (Nat.le_refl _) rfl
  rw [List.take_length] at this
  exact ⟨_,_,_,rfl,this⟩
section
variable {X:CtxF}{ops r:List Oper}{t:TF}{h:HF}{n:Nat}{w:List Nat}{Q:SV→Prop}{o:Oper}{d:Tmp}
end
section
variable {X:CtxF}{ops r:List Oper}{ms:List Nat}{i m:Nat}{t:TF}{h:HF}{n:Nat}{w:List Nat}{al ld:List (Nat×Nat)}{ef:List (Nat×HF×List Nat)}{Q:SV→Prop}{o:Oper}{d:Tmp}
theorem bf (cs:List Value){c:Nat}(hw:zg ops t o=true∧o.dst=some d∧zj X.nt (some d)=true∧cls o.op=2∧mkE X.E o.op (evF t)=some ⟨cs,e,false,some (l,c)⟩)
  (k:∀h',h' (3*n+2)=some (.row cs e)→Ext n h h'→ED X ops r ms (i+1) ⟨⟨upd t d (.slice (some ⟨3*n+2,0,none⟩) l c),h',n+1,w⟩,(i,3*n+2)::al,ld,ef⟩ Q):ED X ops (o::r) (m::ms) i ⟨⟨t,h,n,w⟩,al,ld,ef⟩ Q:=by obtain ⟨hw,hd,hn,hc,hm⟩:=hw;exact zc6 hw hd hn hc hm (k _ (ze _ _ _) (Ext.upd zo))
end
end
section
variable {h:HF}{m n:Nat}{v:Value}
section
variable {x y:Rat}{p q r:Nat}
theorem zS (x:Rat):zm (ratT x)=x:=sV rfl
theorem addR (k:Nat)(g:GG h n)(sx:Sz p x)(sy:Sz q y)(hp:p≤1890)(hq:q≤1890)(hpq:p+q+1≤2496){z:Rat}(hz:x+y=z)(sr:Sz r z)(hr:r≤1920):VF (cal (k+11)) 21 [.string ⟨⟨ratT x⟩⟩,.string ⟨⟨ratT y⟩⟩] h n fun v=>v=.string ⟨⟨ratT z⟩⟩:=by
 have:=addS k g (a:=ratT x) (b:=ratT y) (TL.ratT (sx.mono hp)) (TL.ratT (sy.mono hq)) (p:=p) (q:=q) (r:=r) (by rw [zS];exact sx) (by rw [zS];exact sy) hpq (by rw [zS,zS,hz];exact sr) hr
 rw [zS,zS,hz] at this
 exact this
theorem mulR (k:Nat)(g:GG h n)(sx:Sz p x)(sy:Sz q y)(hp:p≤1890)(hq:q≤1890)(hpq:p+q≤1900):VF (cal (k+11)) 22 [.string ⟨⟨ratT x⟩⟩,.string ⟨⟨ratT y⟩⟩] h n fun v=>v=.string ⟨⟨ratT (x*y)⟩⟩:=by
 have:=mulS k g (a:=ratT x) (b:=ratT y) (TL.ratT (sx.mono hp)) (TL.ratT (sy.mono hq)) (p:=p) (q:=q) (r:=p+q) (by rw [zS];exact sx) (by rw [zS];exact sy) zo (by rw [zS,zS];exact sx.mul sy) zo
 rw [zS,zS] at this
 exact this
theorem cmpR (k:Nat)(g:GG h n)(sx:Sz p x)(sy:Sz q y)(hp:p≤1890)(hq:q≤1890)(hpq:p+q+1≤2496):VF (cal (k+11)) 23 [.string ⟨⟨ratT x⟩⟩,.string ⟨⟨ratT y⟩⟩] h n fun v=>∃s:Int,v=.int .i64 s∧(s= -1∧x<y∨s=0∧x=y∨s=1∧y<x):=by
 have:=cmpS k g (a:=ratT x) (b:=ratT y) (TL.ratT (sx.mono hp)) (TL.ratT (sy.mono hq)) (p:=p) (q:=q) (by rw [zS];exact sx) (by rw [zS];exact sy) hpq
 rw [zS,zS] at this
 exact this
end
noncomputable def cq (p:LPD)(R C:List (List UInt8))(j i:Nat):Rat:=colQ (xF p) (R.map zm) (((C.map zm)[j]?).getD 0) j i
noncomputable def sq (p:LPD)(R C X:List (List UInt8))(j:Nat):Rat:=dotR ((sO (xF p) (R.map zm) (C.map zm) (xF p).length 0).take j) ((X.map zm).take j)
section
variable {p:LPD}{R C X:List (List UInt8)}{i j:Nat}
theorem zbj {d:List UInt8}(hn:wu d)(hg:C[j]?=some d):ratT (cq p R C j 0)=d:=by
 show ratT (((C.map zm)[j]?).getD 0)=d
 rw [List.getElem?_map,hg]
 exact tL hn
theorem zbk {d:RowD}{a m:Rat}(h1:p.rows[i]?=some d)(h2:d.A[j]?=some (ratT a))(h3:R[i]?=some (ratT m)):cq p R C j i+m*a=cq p R C j (i+1):=by
 unfold cq
 rw [Rat.mul_comm,fQ (d:=rowS d) (a:=a) (m:=m) (p8 h1) (by show (d.A.map zm)[j]?=_;rw [List.getElem?_map,h2];show some (zm (ratT a))=_;rw [zS]) (by rw [List.getElem?_map,h3];show some (zm (ratT m))=_;rw [zS])]
theorem Txt.rat {a:Nat}{q:Rat}(h:Txt a (ratT q)):Sz a q:=by
 have:=h.2
 rwa [zS] at this
theorem gn:ratT 0=[48]:=rfl
theorem aN:sq p R C X 0=0:=by unfold sq;rw [List.take_zero,ub]
theorem aW {x:Rat}(hm:m=p.rows.length)(hj:j<C.length)(hx:X[j]?=some (ratT x)):sq p R C X j+cq p R C j m*x=sq p R C X (j+1):=by
 unfold sq cq
 have hc:(C.map zm)[j]?=some (zm C[j]):=by rw [List.getElem?_map,List.getElem?_eq_getElem hj];rfl
 have e:=pE (rs:=xF p) (ms:=R.map zm) (i:=(xF p).length) (j:=0) hc
 rw [if_neg (Nat.not_lt_zero _)] at e
 have e2:(X.map zm)[j]?=some x:=by rw [List.getElem?_map,hx];show some (zm (ratT x))=_;rw [zS]
 rw [xi e e2,hc,hm,←yV]
 rfl
theorem aP:ratT (sq p R C X 0)=[48]:=by rw [aN];exact gn
theorem cj (hp:LPB 27 p)(hR:∀s∈R,Txt 40 s)(hC:∀s∈C,Txt 40 s)(j i:Nat):Sz (40+i*68) (cq p R C j i):=by
 unfold cq
 refine zbm (a:=27) (b:=40) (fun d hd q hq=>?_) (Txt.nums hR) ?_ j i
 ·obtain ⟨r,hr,rfl⟩:=List.mem_map.1 hd
  exact Txt.nums (hp.rl r hr).2.2.2 q hq
 cases h:(C.map zm)[j]? with
 |none=>exact Sz.zero _ zd
 |some c=>exact Txt.nums hC c (List.mem_of_getElem? h)
theorem aQ (hv:VLP p)(hp:LPB 27 p)(hR:∀s∈R,Txt 40 s)(hC:∀s∈C,Txt 40 s)(hX:∀s∈X,Txt 40 s)(h1:p.rows.length≤6)(h2:p.obj.length≤5)(h3:R.length=p.rows.length)(h4:C.length=p.obj.length)(h5:X.length=p.obj.length){j:Nat}(hj:j≤p.obj.length):Sz 1600 (sq p R C X j):=by
 unfold sq
 refine zb9 (fun d hd q hq=>?_) (Txt.nums hR) (Txt.nums hC) (Txt.nums hX) (by simp;omega) (by rw [yV];exact h1) (by simp;omega) (by simp;omega) (fun d hd=>?_) (by simp;omega)
 ·obtain ⟨r,hr,rfl⟩:=List.mem_map.1 hd
  exact Txt.nums (hp.rl r hr).2.2.2 q hq
 obtain ⟨r,hr,rfl⟩:=List.mem_map.1 hd
 show (r.A.map zm).length≤5
 rw [List.length_map,(hv.rw r hr).2.2]
 exact h2
theorem zdv (hv:VLP p)(h3:R.length=p.rows.length)(h4:C.length=p.obj.length)(h5:X.length=p.obj.length)(hf:feaP p X)(hb:bndP p R C):bndQ p R C≤sq p R C X p.obj.length:=by
 have hcl:=hv.cols
 have h:=iD (xs:=X.map zm) hb.1 hb.2 hf.2 hf.1 (by simp;omega) (fun d hd=>by
  obtain ⟨r,hr,rfl⟩:=List.mem_map.1 hd
  show (r.A.map zm).length=_
  rw [List.length_map,List.length_map,(hv.rw r hr).2.2,h4]) (by rw [List.length_map,yV];exact h3) (by rw [List.length_map];omega)
 unfold bndQ sq
 rw [List.take_of_length_le (by rw [List.length_map,yV];omega),List.take_of_length_le (by rw [List.length_map];omega),List.take_of_length_le (by rw [oT,List.length_map];omega),List.take_of_length_le (by rw [List.length_map];omega)]
 exact h
theorem feaC (h:v=feaV p X):∃(b:Bool) (E:Int),v=.tuple #[.bool b,.int .i64 E]∧(b=true→E=0→VLP p∧allN X∧X.length=p.obj.length∧feaP p X):=by
 subst h
 unfold feaV
 split
 ·rename_i h1
  split
  ·rename_i h2
   exact ⟨_,_,rfl,fun h3 _=>⟨h1.1,h1.2,h2,by simpa using h3⟩⟩
  exact ⟨_,_,rfl,fun h3 _=>by cases h3⟩
 exact ⟨_,_,rfl,fun h3 _=>by cases h3⟩
theorem bndC (h:v=bndV p R C):∃(s:List UInt8) (b:Bool) (E:Int),v=.tuple #[.string ⟨⟨s⟩⟩,.bool b,.int .i64 E]∧(b=true→E=0→VLP p∧allN R∧allN C∧R.length=p.rows.length∧C.length=p.obj.length∧bndP p R C∧s=ratT (bndQ p R C)):=by
 subst h
 unfold bndV
 split
 ·rename_i h1
  split
  ·rename_i h2
   split
   ·rename_i h3
    exact ⟨_,_,_,rfl,fun _ _=>⟨h1.1,h1.2.1,h1.2.2,h2.1,h2.2,h3,rfl⟩⟩
   exact ⟨_,_,_,rfl,fun h3 _=>by cases h3⟩
  exact ⟨_,_,_,rfl,fun h3 _=>by cases h3⟩
 exact ⟨_,_,_,rfl,fun h3 _=>by cases h3⟩
end
end
section
variable {h:HF}{co cr cu cw cx lo lr lu lw lx n:Nat}{ao ar au aw ax:Option Addr}{S:List (List UInt8)}{p:LPD}
theorem qF (k:Nat)(m:Int)(ix:Sl h n 1 (.slice ax lx cx) (strs S))(hb:S.length<100000000):VF (cal (k+1)) 24 [.int .i64 m,.slice ax lx cx] h n fun v=>∃b:Bool,v=.bool b∧(b=true↔∀s∈S,(s.length:Int)≤m):=by
 have lx1:=zI ix
 refine zu (fn:=Tryz.f24) R4 ?_
 refine zG ?_
 refine sF (α:=Nat) (fun z=>[(0,.int .i64 m),(1,.slice ax lx cx),(5,.int .i64 (z:Int))]) (fun z h' n' w'=>w'=[]∧n≤n'∧ExtB n [] h h'∧z≤S.length∧∀s∈S.take z,(s.length:Int)≤m) (fun z=>S.length-z) 0 ⟨rfl,Nat.le_refl _,ExtB.refl _ _ _,(Nat.zero_le _),(fun s hs=>absurd hs (by simp))⟩ ?_
 rintro j t h11 n11 _ ⟨rfl,y11,Y11,hj,hall⟩
 have hj:j≤S.length:=hj
 have hall:∀s∈S.take j,(s.length:Int)≤m:=hall
 refine zG ?_
 by_cases q12:(j:Int)<(lx:Int)
 ·refine zG ?_
  obtain ⟨d13,g13⟩:∃d,(S)[j]?=some d:=⟨_,List.getElem?_eq_getElem zo⟩
  obtain ⟨k13,o13,e13,m13,r13,t13⟩:=xp ix g13
  refine sI e13 r13 ?_
  refine sL t13 m13 0 ?_
  refine st_I (ik:=.i64) (a:=(d13.length:Int)) R5 ?_
  refine zG ?_
  by_cases q14:(d13.length:Int)>m
  ·refine zf ?_
   exact zno fun hq=>by have:=hq _ (List.mem_of_getElem? g13);omega
  refine zG ?_
  exact sK (j+1) ⟨rfl,zo,Y11,(by show j+1≤S.length;omega),(rx hall g13 zo)⟩
 refine zf ?_
 exact zye (by have hq:=hall;rw [List.take_of_length_le zo] at hq;exact hq)
theorem eZ (k:Nat){al:Option Addr}{ll cl:Nat}{LS:List (List (List UInt8))}(il:SLS h n (.slice al ll cl) LS)(hb:LS.length<100000000):VF (cal (k+2)) 7 [.slice al ll cl] h n fun v=>∃b:Bool,v=.bool b∧(b=true→∀S∈LS,S.length≤10∧∀s∈S,(s.length:Int)≤12):=by
 have ll1:=il.len
 refine zu (fn:=Tryz.f7) R4 ?_
 refine zG ?_
 refine sF (α:=Nat) (fun z=>[(0,.slice al ll cl),(3,.int .i64 (z:Int))]) (fun z h' n' w'=>w'=[]∧n≤n'∧ExtB n [] h h'∧z≤LS.length∧∀S∈LS.take z,S.length≤10∧∀s∈S,(s.length:Int)≤12) (fun z=>LS.length-z) 0 ⟨rfl,Nat.le_refl _,ExtB.refl _ _ _,(Nat.zero_le _),(fun s hs=>absurd hs (by simp))⟩ ?_
 rintro j t h11 n11 _ ⟨rfl,y11,Y11,hj,hall⟩
 have hj:j≤LS.length:=hj
 have hall:∀S∈LS.take j,S.length≤10∧∀s∈S,(s.length:Int)≤12:=hall
 refine zG ?_
 by_cases q12:(j:Int)<(ll:Int)
 ·refine zG ?_
  obtain ⟨d13,g13⟩:∃d,(LS)[j]?=some d:=⟨_,List.getElem?_eq_getElem zo⟩
  obtain ⟨k13,o13,a13,l13,c13,e13,m13,r13,t13,i13⟩:=SLS.at il g13
  have la13:=zI i13
  refine sI e13 r13 ?_
  refine sL t13 m13 0 ?_
  refine zG ?_
  by_cases q14:(l13:Int)>10
  ·refine zf ?_
   exact ⟨_,rfl,fun hq=>(by cases hq)⟩
  refine zG ?_
  refine sI e13 r13 ?_
  refine sL t13 m13 0 ?_
  refine sC ((qF _ (12) (i13.x zx) zo).cx) ?_
  rintro _ h15 n15 ⟨b15,rfl,bq15⟩ y15 x15
  rcases bvs bq15 with ⟨rfl,q15⟩|⟨rfl,q15⟩
  ·refine zf ?_
   exact ⟨_,rfl,fun hq=>(by cases hq)⟩
  refine zG ?_
  exact sK (j+1) ⟨rfl,zo,zy,(by show j+1≤LS.length;omega),(rx hall g13 ⟨zo,q15⟩)⟩
 refine zf ?_
 exact ⟨_,rfl,fun _=>by have hq:=hall;rw [List.take_of_length_le zo] at hq;exact hq⟩
theorem i9 (k:Nat)(io:Sl h n 1 (.slice ao lo co) (strs p.obj))(ir:RWS h n (.slice ar lr cr) p.rows)(iw:Sl h n 1 (.slice aw lw cw) (strs p.lower))(iu:Sl h n 1 (.slice au lu cu) (strs p.upper)):VF (cal (k+2)) 6 [.agg #[.slice ao lo co,.slice ar lr cr,.slice aw lw cw,.slice au lu cu]] h n fun v=>∃b:Bool,v=.bool b∧(b=true→SmlP p):=by
 have lo1:=zI io
 have lr1:=ir.len
 have lw1:=zI iw
 have lu1:=zI iu
 refine zu (fn:=Tryz.f6) R4 ?_
 refine zG ?_
 refine sB [.slice ao lo co,.slice ar lr cr,.slice aw lw cw,.slice au lu cu] ?_
 intro h11 p11 x11
 refine zG ?_
 by_cases q12:(lo:Int)>5
 ·refine zf ?_
  exact ⟨_,rfl,fun hq=>(by cases hq)⟩
 refine zG ?_
 by_cases q13:(lr:Int)>6
 ·refine zf ?_
  exact ⟨_,rfl,fun hq=>(by cases hq)⟩
 refine zG ?_
 by_cases q14:(lw:Int)>7
 ·refine zf ?_
  exact ⟨_,rfl,fun hq=>(by cases hq)⟩
 refine zG ?_
 by_cases q15:(lu:Int)>7
 ·refine zf ?_
  exact ⟨_,rfl,fun hq=>(by cases hq)⟩
 refine zG ?_
 refine sC ((qF _ (8) (io.x zx) zo).cx) ?_
 rintro _ h16 n16 ⟨b16,rfl,bq16⟩ y16 x16
 rcases bvs bq16 with ⟨rfl,q16⟩|⟨rfl,q16⟩
 ·refine zf ?_
  exact ⟨_,rfl,fun hq=>(by cases hq)⟩
 refine zG ?_
 refine sC ((qF _ (8) (iw.x zx) zo).cx) ?_
 rintro _ h17 n17 ⟨b17,rfl,bq17⟩ y17 x17
 rcases bvs bq17 with ⟨rfl,q17⟩|⟨rfl,q17⟩
 ·refine zf ?_
  exact ⟨_,rfl,fun hq=>(by cases hq)⟩
 refine zG ?_
 refine sC ((qF _ (8) (iu.x zx) zo).cx) ?_
 rintro _ h18 n18 ⟨b18,rfl,bq18⟩ y18 x18
 rcases bvs bq18 with ⟨rfl,q18⟩|⟨rfl,q18⟩
 ·refine zf ?_
  exact ⟨_,rfl,fun hq=>(by cases hq)⟩
 refine zG ?_
 refine sF (α:=Nat) (fun z=>[(1,.pointer (some ⟨3*n+2,0,none⟩)),(3,.int .i64 (z:Int))]) (fun z h' n' w'=>w'=[]∧n18≤n'∧ExtB n18 [] h18 h'∧z≤p.rows.length∧∀r∈p.rows.take z,zae r) (fun z=>p.rows.length-z) 0 ⟨rfl,Nat.le_refl _,ExtB.refl _ _ _,(Nat.zero_le _),(fun s hs=>absurd hs (by simp))⟩ ?_
 rintro i t h19 n19 _ ⟨rfl,y19,Y19,hi,hrw⟩
 have hi:i≤p.rows.length:=hi
 have hrw:∀r∈p.rows.take i,zae r:=hrw
 refine zG ?_
 by_cases q20:(i:Int)<(lr:Int)
 ·refine zG ?_
  refine zB [0,1,0,7,15,31,63,127,255,511,1023,511,4095,8191,16383,32767,65535,131071,262143,524287,1048575,524287,4194303,8388607,16777215,524287,34078719,524287,235405311,503840767,1040711679,2147483647,4294967295,8589934591,17179869183] rfl ?_
  refine zH ?_
  obtain ⟨d21,g21⟩:∃d,(p.rows)[i]?=some d:=⟨_,List.getElem?_eq_getElem zo⟩
  obtain ⟨k21,o21,a21,l21,c21,e21,m21,r21,t21,i21⟩:=RWS.at ir g21
  have la21:=zI i21
  refine dI e21 r21 ?_
  refine zH ?_
  refine dL t21 m21 0 ?_
  refine zH ?_
  by_cases q22:(l21:Int)>7
  ·refine zf ?_
   exact ⟨_,rfl,fun hq=>(by cases hq)⟩
  refine zH ?_
  refine dI e21 r21 ?_
  refine zH ?_
  refine dL t21 m21 0 ?_
  refine dC ((qF _ (8) (i21.x zx) zo).cx) ?_
  rintro _ h23 n23 ⟨b23,rfl,bq23⟩ y23 x23
  rcases bvs bq23 with ⟨rfl,q23⟩|⟨rfl,q23⟩
  ·refine zf ?_
   exact ⟨_,rfl,fun hq=>(by cases hq)⟩
  refine zH ?_
  refine dI e21 r21 ?_
  refine zH ?_
  refine dL t21 m21 1 ?_
  refine zH ?_
  refine dI e21 r21 ?_
  refine zH ?_
  refine dL t21 m21 2 ?_
  refine bf [.string ⟨⟨d21.lo⟩⟩,.string ⟨⟨d21.hi⟩⟩] (l:=2) (c:=2) R5 ?_
  intro h24 p24 x24
  refine dC ((qF _ (8) (zcd p24 zo) (by show 2<100000000;omega)).cx) ?_
  rintro _ h25 n25 ⟨b25,rfl,bq25⟩ y25 x25
  rcases bvs bq25 with ⟨rfl,q25⟩|⟨rfl,q25⟩
  ·refine zf ?_
   exact ⟨_,rfl,fun hq=>(by cases hq)⟩
  refine zJ ?_
  exact sK (i+1) ⟨rfl,zo,zy,(by show i+1≤p.rows.length;omega),(rx hrw g21 ⟨zo,q23,q25⟩)⟩
 refine zf ?_
 exact ⟨_,rfl,fun _=>⟨zo,zo,zo,zo,q16,q17,q18,by have hq:=hrw;rw [List.take_of_length_le zo] at hq;exact hq⟩⟩
end
section
variable {h:HF}{co cr cu cw lo lr lu lw n:Nat}{ao ar au aw:Option Addr}{p:LPD}
theorem aE (k:Nat)(io:Sl h n 1 (.slice ao lo co) (strs p.obj))(ir:RWS h n (.slice ar lr cr) p.rows)(iw:Sl h n 1 (.slice aw lw cw) (strs p.lower))(iu:Sl h n 1 (.slice au lu cu) (strs p.upper))(hp:SmlP p):CX (cal (k+3)) 9 [.agg #[.slice ao lo co,.slice ar lr cr,.slice aw lw cw,.slice au lu cu]] h n fun v h' n'=>∃aO lO kO aR lR kR aL lL kL aU lU kU,v=.agg #[.slice aO lO kO,.slice aR lR kR,.slice aL lL kL,.slice aU lU kU]∧SSE n h' n' (.slice aO lO kO) p.obj∧GRW n h' n' (.slice aR lR kR) (xZ p)∧SSE n h' n' (.slice aL lL kL) (fitL p.lower p.obj.length [])∧SSE n h' n' (.slice aU lU kU) (fitL p.upper p.obj.length []):=by
 have lo1:=zI io
 have lr1:=ir.len
 have lw1:=zI iw
 have lu1:=zI iu
 obtain ⟨hn1,hn2,hn3,hn4,hq1,hq2,hq3,hrw⟩:=hp
 refine zn (fn:=Tryz.f9) R4 ?_
 refine zG ?_
 refine sB [.slice ao lo co,.slice ar lr cr,.slice aw lw cw,.slice au lu cu] ?_
 intro h11 p11 x11
 refine sA ?_
 intro h12 p12 x12
 refine zG ?_
 refine zB [0,1,3,0,8,0,63,0,128,0,1023,2047,0,8191] rfl ?_
 refine zH ?_
 refine dC (zan _ (io.x zx) zo) ?_
 rintro _ h13 n13 ⟨a13,l13,c13,rfl,i13⟩ y13 x13
 refine zH ?_
 refine dC (qP _ (iw.x zx) zo (m:=lo) zo []) ?_
 rintro _ h14 n14 ⟨a14,c14,rfl,i14⟩ y14 x14
 have i14:SSE n13 h14 n14 (.slice a14 lo c14) (fitL p.lower p.obj.length []):=by have e:fitL p.lower lo []=fitL p.lower p.obj.length []:=(by rw [lo1]);rw [←e];exact i14
 refine zH ?_
 refine dC (qP _ (iu.x zx) zo (m:=lo) zo []) ?_
 rintro _ h15 n15 ⟨a15,c15,rfl,i15⟩ y15 x15
 have i15:SSE n14 h15 n15 (.slice a15 lo c15) (fitL p.upper p.obj.length []):=by have e:fitL p.upper lo []=fitL p.upper p.obj.length []:=(by rw [lo1]);rw [←e];exact i15
 refine dT #[.slice a13 l13 c13,.slice none 0 0,.slice a14 lo c14,.slice a15 lo c15] ?_
 refine dB [.slice none 0 0,.slice none 0 0,.slice none 0 0,.slice none 0 0] ?_
 intro h16 p16 x16
 refine dS [.slice a13 l13 c13,.slice none 0 0,.slice a14 lo c14,.slice a15 lo c15] ?_
 intro h17 p17 o17
 refine zG ?_
 refine sF (α:=Nat×Option Addr×Nat×Nat) (fun z=>[(1,.pointer (some ⟨3*n+2,0,none⟩)),(2,.pointer (some ⟨3*(n+1)+2,0,none⟩)),(3,.int .i64 (lo:Int)),(4,.pointer (some ⟨3*n15+2,0,none⟩)),(5,.int .i64 (z.1:Int))]) (fun z h' n' w'=>w'=[]∧n15+1≤n'∧ExtB (n15+1) [3*n15+2] h17 h'∧h' (3*n15+2)=some (.row [.slice a13 l13 c13,.slice z.2.1 z.2.2.1 z.2.2.2,.slice a14 lo c14,.slice a15 lo c15] 25)∧GRW (n15+1) h' n' (.slice z.2.1 z.2.2.1 z.2.2.2) ((xZ p).take z.1)∧z.1≤p.rows.length) (fun z=>p.rows.length-z.1) (0,none,0,0) ⟨rfl,Nat.le_refl _,ExtB.refl _ _ _,p17,GRW.nil _ _ _,(Nat.zero_le _)⟩ ?_
 rintro ⟨i,aT,lT,kT⟩ t h18 n18 _ ⟨rfl,y18,Y18,p18_0,i18_0_0,hi⟩
 have p18_0:h18 (3*n15+2)=some (.row [.slice a13 l13 c13,.slice aT lT kT,.slice a14 lo c14,.slice a15 lo c15] 25):=p18_0
 have i18_0_0:GRW (n15+1) h18 n18 (.slice aT lT kT) ((xZ p).take i):=i18_0_0
 have hi:i≤p.rows.length:=hi
 refine zG ?_
 by_cases q19:(i:Int)<(lr:Int)
 ·refine zG ?_
  refine zB [0,1,0,4,0,28,60,124,0,508,0,1024,0,7168,15360,31744,0,65536,0,458752,983040,2031616,4194300,8388604,16777215,33554431,67108863] rfl ?_
  refine zH ?_
  obtain ⟨d20,g20⟩:∃d,(p.rows)[i]?=some d:=⟨_,List.getElem?_eq_getElem zo⟩
  obtain ⟨k20,o20,a20,l20,c20,e20,m20,r20,t20,i20⟩:=RWS.at ir g20
  have la20:=zI i20
  refine dI e20 r20 ?_
  refine zH ?_
  refine dL t20 m20 0 ?_
  refine zH ?_
  refine dC (qP _ (i20.x zx) (by have:=(hrw _ (List.mem_of_getElem? g20)).1;omega) (m:=lo) zo [48]) ?_
  rintro _ h21 n21 ⟨a21,c21,rfl,i21⟩ y21 x21
  have i21:SSE n18 h21 n21 (.slice a21 lo c21) (fitL d20.A p.obj.length [48]):=by have e:fitL d20.A lo [48]=fitL d20.A p.obj.length [48]:=(by rw [lo1]);rw [←e];exact i21
  refine zH ?_
  refine dI e20 r20 ?_
  refine zH ?_
  refine dL t20 m20 1 ?_
  refine zH ?_
  refine dI e20 r20 ?_
  refine zH ?_
  refine dL t20 m20 2 ?_
  refine dT #[.slice a21 lo c21,.string ⟨⟨d20.lo⟩⟩,.string ⟨⟨d20.hi⟩⟩] ?_
  refine bf [.slice a21 lo c21,.string ⟨⟨d20.lo⟩⟩,.string ⟨⟨d20.hi⟩⟩] (l:=1) (c:=1) R5 ?_
  intro h22 p22 x22
  have s23:jd (n15+1) [.slice a21 lo c21,.string ⟨⟨d20.lo⟩⟩,.string ⟨⟨d20.hi⟩⟩] (aF p.obj.length d20) h22 (n21+1):=⟨_,_,_,rfl,((i21.x zx)).lo (show n15+1≤n18 by omega)⟩
  obtain ⟨C23,gr23,rc23⟩:=((i18_0_0.x (h':=h22) (n':=n21+1) zx)).ex
  have ph23:h22 (3*n21+2)=_:=p22
  refine zc8 (lo:=(n15+1)) (mm:=1) rfl rfl rfl rfl rfl rfl rfl rfl ⟨Nat.le_of_ble_eq_true rfl,Nat.le_of_ble_eq_true rfl⟩ rfl rfl rfl gr23 (xy ph23 R2) (Nat.le_refl _) (by rw [List.length_take,xP];omega) rfl rfl ⟨by show n≤_;omega,zo⟩ ?_
  intro v23 h23 W23 gg23 x23 k23 f23
  have G23:=GRW.app gr23 rc23 s23 k23 gg23
  obtain ⟨a23,es23,_⟩:=gg23.shape
  subst es23
  replace x23:Exa (n15+1) _ _:=⟨x23⟩
  have p24:h23 (3*n+2)=_:=(k23.blk gr23 (zC _) zo).trans zp
  have p25:h23 (3*(n+1)+2)=_:=(k23.blk gr23 (zC _) zo).trans zp
  have p26:h23 (3*n15+2)=_:=(k23.blk gr23 (zC _) zo).trans zp
  have p27:h23 (3*n21+2)=_:=(k23.blk gr23 (zC _) zo).trans zp
  refine zH ?_
  refine dS (b:=3*n15+2) (off:=1) [.slice a13 l13 c13,.slice a23 (((xZ p).take i).length+1) (((xZ p).take i).length+1),.slice a14 lo c14,.slice a15 lo c15] ?_
  intro h28 p28 o28
  have i29:=G23.sto o28 zo
  refine zG ?_
  exact sK (i+1,a23,(((xZ p).take i).length+1),(((xZ p).take i).length+1)) ⟨rfl,zo,zy,p28,((yD (kJ g20)).symm▸i29),(by show i+1≤p.rows.length;omega)⟩
 refine zG ?_
 have hie:i=p.rows.length:=zo
 have hrows:GRW (n15+1) h18 n18 (.slice aT lT kT) (xZ p):=by have hq:=i18_0_0;rw [List.take_of_length_le (by rw [xP];omega)] at hq;exact hq
 refine zG ?_
 refine sS [.slice a13 l13 c13,.slice aT lT kT,.slice a14 lo c14,.slice a15 lo c15] ?_
 intro h30 p30 o30
 have i31:=(i13.x zx).sto o30 zo
 have i32:=(i14.x zx).sto o30 zo
 have i33:=(i15.x zx).sto o30 zo
 have i34:=i18_0_0.sto o30 zo
 have i35:=hrows.sto o30 zo
 refine zq ?_
 exact ⟨_,_,_,_,_,_,_,_,_,_,_,_,rfl,(i31).lo zo,(i35).lo zo,(i32).lo zo,(i33).lo zo⟩
end
section
set_option maxRecDepth 100000
variable {h:HF}{co cr cu cw cx cy lo lr lu lw lx ly n:Nat}{ao ar au aw ax ay:Option Addr}{p:LPD}{R S:List (List UInt8)}
theorem simplexBound_ok (k:Nat)(g:GG h n)(io:Sl h n 1 (.slice ao lo co) (strs p.obj))(ir:RWS h n (.slice ar lr cr) p.rows)(iw:Sl h n 1 (.slice aw lw cw) (strs p.lower))(iu:Sl h n 1 (.slice au lu cu) (strs p.upper)){az:Option Addr}{lz cz:Nat}{C:List (List UInt8)}(ix:Sl h n 1 (.slice ax lx cx) (strs S))(iy:Sl h n 1 (.slice ay ly cy) (strs R))(iz:Sl h n 1 (.slice az lz cz) (strs C)):VF (cal (k+15)) 5 [.agg #[.slice ao lo co,.slice ar lr cr,.slice aw lw cw,.slice au lu cu],.slice ax lx cx,.slice ay ly cy,.slice az lz cz] h n fun v=>v=.bool true:=by
 have lo1:=zI io
 have lr1:=ir.len
 have lw1:=zI iw
 have lu1:=zI iu
 have lx1:=zI ix
 have ly1:=zI iy
 have lz1:=zI iz
 refine zu (fn:=Tryz.f5) R4 ?_
 refine zG ?_
 refine sB [.slice ao lo co,.slice ar lr cr,.slice aw lw cw,.slice au lu cu] ?_
 intro h11 p11 x11
 refine zG ?_
 refine sC ((i9 _ (io.x zx) (ir.x zx) (iw.x zx) (iu.x zx)).cx) ?_
 rintro _ h12 n12 ⟨b12,rfl,m12⟩ y12 x12
 cases b12
 ·refine zG ?_
  refine sC ((wq _ (g.x zx)).cx) ?_
  rintro _ h13 n13 rfl y13 x13
  refine zf ?_
  exact rfl
 have m12:=m12 rfl
 have hn1:=m12.n1
 have hn2:=m12.n2
 have hn3:=m12.n3
 have hn4:=m12.n4
 refine zG ?_
 refine wB [.slice ax lx cx,.slice ay ly cy,.slice az lz cz] (l:=3) (c:=3) R5 ?_
 intro h14 p14 x14
 refine sC ((eZ _ (SLS.three p14 zo (ix.x zx) (iy.x zx) (iz.x zx)) (by show 3<100000000;omega)).cx) ?_
 rintro _ h15 n15 ⟨b15,rfl,m15⟩ y15 x15
 cases b15
 ·refine zG ?_
  refine sC ((wq _ (g.x zx)).cx) ?_
  rintro _ h16 n16 rfl y16 x16
  refine zf ?_
  exact rfl
 have m15:=m15 rfl
 obtain ⟨hS1,hS2⟩:=m15 S (by simp)
 obtain ⟨hR1,hR2⟩:=m15 R (by simp)
 obtain ⟨hC1,hC2⟩:=m15 C (by simp)
 refine zG ?_
 refine sC (aE _ (io.x zx) (ir.x zx) (iw.x zx) (iu.x zx) m12) ?_
 rintro _ h17 n17 ⟨aO17,lO17,kO17,aR17,lR17,kR17,aL17,lL17,kL17,aU17,lU17,kU17,rfl,iO17,iR17,iL17,iU17⟩ y17 x17
 have qO17:=zI iO17.1
 have qR17:=iR17.rws.len
 rw [xP] at qR17
 refine sS [.slice aO17 lO17 kO17,.slice aR17 lR17 kR17,.slice aL17 lL17 kL17,.slice aU17 lU17 kU17] ?_
 intro h18 p18 o18
 have i19:=iO17.sto o18 zo
 have i20:=iR17.sto o18 zo
 have i21:=iL17.sto o18 zo
 have i22:=iU17.sto o18 zo
 refine zG ?_
 refine zB [0,0,2,6,15,0,0,64,192,511,0,0,2048,6144,16383,32767,65535,131071] rfl ?_
 refine zH ?_
 refine dC (qP _ (ix.x zx) zo (m:=lO17) zo [48]) ?_
 rintro _ h23 n23 ⟨a23,c23,rfl,i23⟩ y23 x23
 have i23:SSE n17 h23 n23 (.slice a23 lO17 c23) (fitL S p.obj.length [48]):=by have e:fitL S lO17 [48]=fitL S p.obj.length [48]:=(by rw [qO17]);rw [←e];exact i23
 refine zH ?_
 refine dC (qP _ (iy.x zx) zo (m:=lR17) zo [48]) ?_
 rintro _ h24 n24 ⟨a24,c24,rfl,i24⟩ y24 x24
 have i24:SSE n23 h24 n24 (.slice a24 lR17 c24) (fitL R p.rows.length [48]):=by have e:fitL R lR17 [48]=fitL R p.rows.length [48]:=(by rw [qR17]);rw [←e];exact i24
 refine zH ?_
 refine dC (qP _ (iz.x zx) zo (m:=lO17) zo [48]) ?_
 rintro _ h25 n25 ⟨a25,c25,rfl,i25⟩ y25 x25
 have i25:SSE n24 h25 n25 (.slice a25 lO17 c25) (fitL C p.obj.length [48]):=by have e:fitL C lO17 [48]=fitL C p.obj.length [48]:=(by rw [qO17]);rw [←e];exact i25
 refine zJ ?_
 refine sC (((zd9 _ (g.x zx) (i19.x zx).ss (i20.x zx).rws (i21.x zx).ss (i22.x zx).ss (p:=(tj p)) (a:=27) m12.tidy.lpb zo (i23.x zx).ss (S:=(fitL S p.obj.length [48])) (b:=40) (fun s hs=>kH (yS hS2 zd s hs)) (by rw [xN];omega) (show p.obj.length*(27+40+1)+27+40+2≤1900 by omega) zo).cx.mono fun _ _ _ h=>feaC h)) ?_
 rintro _ h26 n26 ⟨b26,E26,rfl,m26⟩ y26 x26
 refine zG ?_
 refine sC (((zdh _ (g.x zx) (i19.x zx).ss (i20.x zx).rws (i21.x zx).ss (i22.x zx).ss (p:=(tj p)) (a:=27) m12.tidy.lpb zo (i24.x zx).ss (i25.x zx).ss (R:=(fitL R p.rows.length [48])) (C:=(fitL C p.obj.length [48])) (b:=40) (fun s hs=>kH (yS hR2 zd s hs)) (by rw [xN];omega) (fun s hs=>kH (yS hC2 zd s hs)) (by rw [xN];omega) (show (xZ p).length*(27+40+1)+p.obj.length*(27+40+1)+27+40+2≤1900 by rw [xP];omega)).cx.mono fun _ _ _ h=>bndC h)) ?_
 rintro _ h27 n27 ⟨s27,b27,E27,rfl,m27⟩ y27 x27
 refine zG ?_
 by_cases q28:E26=0
 ·refine zG ?_
  by_cases q29:E27=0
  ·refine zG ?_
   cases b26
   ·refine zG ?_
    refine sC ((wq _ (g.x zx)).cx) ?_
    rintro _ h30 n30 rfl y30 x30
    refine zf ?_
    exact rfl
   have m26:=m26 rfl
   refine zG ?_
   cases b27
   ·refine zG ?_
    refine sC ((wq _ (g.x zx)).cx) ?_
    rintro _ h31 n31 rfl y31 x31
    refine zf ?_
    exact rfl
   have m27:=m27 rfl
   refine zG ?_
   obtain ⟨hv,nX,lX,hf⟩:=m26 q28
   obtain ⟨_,nR,nC,lR,lC,hb,rfl⟩:=m27 q29
   have hlp:LPB 27 (tj p):=m12.tidy.lpb
   have lW:((tj p)).rows.length=p.rows.length:=xP p
   have iX:=(i23.x (h':=h27) (n':=n27) zx).ss
   have lX:((fitL S p.obj.length [48])).length=p.obj.length:=xN _ _ _
   have kX:=zI iX
   have tX:∀s∈(fitL S p.obj.length [48]),Txt 40 s:=fun s hs=>kH (yS hS2 zd s hs)
   have iR:=(i24.x (h':=h27) (n':=n27) zx).ss
   have lR:((fitL R p.rows.length [48])).length=p.rows.length:=xN _ _ _
   have kR:=zI iR
   have tR:∀s∈(fitL R p.rows.length [48]),Txt 40 s:=fun s hs=>kH (yS hR2 zd s hs)
   have iC:=(i25.x (h':=h27) (n':=n27) zx).ss
   have lC:((fitL C p.obj.length [48])).length=p.obj.length:=xN _ _ _
   have kC:=zI iC
   have tC:∀s∈(fitL C p.obj.length [48]),Txt 40 s:=fun s hs=>kH (yS hC2 zd s hs)
   have iW:RWS h27 n27 (.slice aR17 lR17 kR17) ((tj p)).rows:=(i20.x (h':=h27) (n':=n27) zx).rws
   have kW:=iW.len
   refine zG ?_
   refine sF (α:=Nat) (fun z=>[(1,.slice a23 lO17 c23),(2,.slice a24 lR17 c24),(3,.slice a25 lO17 c25),(4,.pointer (some ⟨3*n+2,0,none⟩)),(8,.bool false),(11,.string ⟨⟨ratT (bndQ (tj p) (fitL R p.rows.length [48]) (fitL C p.obj.length [48]))⟩⟩),(14,.string ⟨⟨ratT (sq (tj p) (fitL R p.rows.length [48]) (fitL C p.obj.length [48]) (fitL S p.obj.length [48]) z)⟩⟩),(15,.int .i64 (z:Int))]) (fun z h' n' w'=>w'=[]∧n27≤n'∧ExtB n27 [] h27 h'∧z≤p.obj.length) (fun z=>p.obj.length-z) 0 ⟨rfl,Nat.le_refl _,ExtB.refl _ _ _,(Nat.zero_le _)⟩ ?_ (hl:=by repeat (first|exact trivial|refine ⟨by rw [aP];rfl,?_⟩|refine ⟨rfl,?_⟩))
   rintro j t h32 n32 _ ⟨rfl,y32,Y32,hj⟩
   have hj:j≤p.obj.length:=hj
   refine zG ?_
   by_cases q33:(j:Int)<(lO17:Int)
   ·refine zG ?_
    obtain ⟨d34,g34⟩:∃d,(fitL C p.obj.length [48])[j]?=some d:=⟨_,List.getElem?_eq_getElem zo⟩
    obtain ⟨k34,o34,e34,m34,r34,t34⟩:=xp iC g34
    obtain rfl:=zbj (p:=(tj p)) (R:=(fitL R p.rows.length [48])) (nC _ (List.mem_of_getElem? g34)) g34
    refine sI e34 r34 ?_
    refine sL t34 m34 0 ?_
    refine zG ?_
    refine sF (α:=Nat) (fun z=>[(1,.slice a23 lO17 c23),(2,.slice a24 lR17 c24),(3,.slice a25 lO17 c25),(4,.pointer (some ⟨3*n+2,0,none⟩)),(8,.bool false),(11,.string ⟨⟨ratT (bndQ (tj p) (fitL R p.rows.length [48]) (fitL C p.obj.length [48]))⟩⟩),(14,.string ⟨⟨ratT (sq (tj p) (fitL R p.rows.length [48]) (fitL C p.obj.length [48]) (fitL S p.obj.length [48]) j)⟩⟩),(15,.int .i64 (j:Int)),(16,.string ⟨⟨ratT (cq (tj p) (fitL R p.rows.length [48]) (fitL C p.obj.length [48]) j z)⟩⟩),(17,.int .i64 (z:Int))]) (fun z h' n' w'=>w'=[]∧n32≤n'∧ExtB n32 [] h32 h'∧z≤p.rows.length) (fun z=>p.rows.length-z) 0 ⟨rfl,Nat.le_refl _,ExtB.refl _ _ _,(Nat.zero_le _)⟩ ?_
    rintro i t h35 n35 _ ⟨rfl,y35,Y35,hi⟩
    have hi:i≤p.rows.length:=hi
    refine zG ?_
    by_cases q36:(i:Int)<(lR17:Int)
    ·refine zG ?_
     refine zB [0,0,0,6,14,0,32,0,224,480,992,0,4064,8160,16382,32767,65535] rfl ?_
     refine zH ?_
     obtain ⟨d37,g37⟩:∃d,(fitL R p.rows.length [48])[i]?=some d:=⟨_,List.getElem?_eq_getElem zo⟩
     obtain ⟨k37,o37,e37,m37,r37,t37⟩:=xp iR g37
     obtain ⟨q37,rfl⟩:=nR _ (List.mem_of_getElem? g37)
     have z37:=(tR _ (List.mem_of_getElem? g37)).rat
     refine dI e37 r37 ?_
     refine dL t37 m37 0 ?_
     refine zH ?_
     obtain ⟨d38,g38⟩:∃d,((tj p).rows)[i]?=some d:=⟨_,List.getElem?_eq_getElem zo⟩
     obtain ⟨k38,o38,a38,l38,c38,e38,m38,r38,t38,i38⟩:=RWS.at iW g38
     have lA38:d38.A.length=p.obj.length:=(hv.rw _ (List.mem_of_getElem? g38)).2.2
     have la38:=zI i38
     refine dI e38 r38 ?_
     refine zH ?_
     refine dL t38 m38 0 ?_
     refine zH ?_
     obtain ⟨d39,g39⟩:∃d,(d38.A)[j]?=some d:=⟨_,List.getElem?_eq_getElem zo⟩
     obtain ⟨k39,o39,e39,m39,r39,t39⟩:=xp i38 g39
     obtain ⟨q39,rfl⟩:=(hv.rw _ (List.mem_of_getElem? g38)).2.1 _ (List.mem_of_getElem? g39)
     have z39:=((hlp.rl _ (List.mem_of_getElem? g38)).2.2.2 _ (List.mem_of_getElem? g39)).rat
     refine dI e39 r39 ?_
     refine dL t39 m39 0 ?_
     refine dC ((mulR _ (g.x zx) z37 z39 zo zo zo).cx) ?_
     rintro _ h40 n40 rfl y40 x40
     refine dC ((addR _ (g.x zx) (cj hlp tR tC j i) (z37.mul z39) zo zo zo (zbk g38 g39 g37) (cj hlp tR tC j (i+1)) zo).cx) ?_
     rintro _ h41 n41 rfl y41 x41
     refine zJ ?_
     exact sK (i+1) ⟨rfl,zo,zy,(by show i+1≤p.rows.length;omega)⟩
    refine zG ?_
    obtain ⟨d42,g42⟩:∃d,(fitL S p.obj.length [48])[j]?=some d:=⟨_,List.getElem?_eq_getElem zo⟩
    obtain ⟨k42,o42,e42,m42,r42,t42⟩:=xp iX g42
    obtain ⟨q42,rfl⟩:=nX _ (List.mem_of_getElem? g42)
    have z42:=(tX _ (List.mem_of_getElem? g42)).rat
    refine sI e42 r42 ?_
    refine sL t42 m42 0 ?_
    refine sC ((mulR _ (g.x zx) (cj hlp tR tC j i) z42 zo zo zo).cx) ?_
    rintro _ h43 n43 rfl y43 x43
    refine sC ((addR _ (g.x zx) (aQ hv hlp tR tC tX zo hn1 zo lC lX (show j≤p.obj.length by omega)) ((cj hlp tR tC j i).mul z42) zo zo zo (aW zo zo g42) (aQ hv hlp tR tC tX zo hn1 zo lC lX (show j+1≤p.obj.length by omega)) zo).cx) ?_
    rintro _ h44 n44 rfl y44 x44
    refine zG ?_
    exact sK (j+1) ⟨rfl,zo,zy,(by show j+1≤p.obj.length;omega)⟩
   refine zG ?_
   refine sC ((cmpR _ (g.x zx) (aQ hv hlp tR tC tX zo hn1 zo lC lX (show j≤p.obj.length by omega)) (fZ hv hlp tR tC ⟨zo,lC⟩) zo zo zo).cx) ?_
   rintro _ h45 n45 ⟨s45,rfl,q45⟩ y45 x45
   rcases q45 with ⟨rfl,q45⟩|⟨rfl,q45⟩|⟨rfl,q45⟩
   ·refine zf ?_
    exact absurd q45 (Rat.not_lt.2 (by have hs:=zdv hv zo lC lX hf hb;rw [show j=p.obj.length by omega];exact hs))
   ·refine zG ?_
    refine sC ((wq _ (g.x zx)).cx) ?_
    rintro _ h46 n46 rfl y46 x46
    refine zf ?_
    exact rfl
   refine zG ?_
   refine sC ((wq _ (g.x zx)).cx) ?_
   rintro _ h47 n47 rfl y47 x47
   refine zf ?_
   exact rfl
  refine zG ?_
  refine sC ((wq _ (g.x zx)).cx) ?_
  rintro _ h48 n48 rfl y48 x48
  refine zf ?_
  exact rfl
 refine zG ?_
 refine sC ((wq _ (g.x zx)).cx) ?_
 rintro _ h49 n49 rfl y49 x49
 refine zf ?_
 exact rfl
end
def upFn (nm:Nat→Nat):Fn→Fn
 | .yield l=>.yield (nm l)
 |f=>f
mutual
def up (nm:Nat→Nat):Value→Value
 | .pointer (some a)=>.pointer (some ⟨nm a.block,a.off,a.spot⟩)
 | .slice (some a) l c=>.slice (some ⟨nm a.block,a.off,a.spot⟩) l c
 | .func f a b=>.func (upFn nm f) (upA nm a) (upA nm b)
 | .agg cs=>.agg (upA nm cs)
 | .tuple cs=>.tuple (upA nm cs)
 |v=>v
def upA (nm:Nat→Nat):Array Value→Array Value
 |⟨l⟩=>⟨upL nm l⟩
def upL (nm:Nat→Nat):List Value→List Value
 |[]=>[]
 |v::r=>up nm v::upL nm r
end
mutual
theorem mF {nm:Nat→Nat}(hb:∀b,ρ.b (nm b)=b)(hx:∀b,ρ.x (nm b)=0):∀v:Value,conc ρ (up nm v)=v
 | .pointer none=>rfl
 | .pointer (some a)=>by simp [up,conc,Ren.addr,hb]
 | .slice none _ _=>rfl
 | .slice (some a) l c=>by simp [up,conc,Ren.addr,hb,hx]
 | .func f a b=>by
  have h1:ρ.fn (upFn nm f)=f:=by cases f<;>simp [upFn,Ren.fn,hb]
  simp only [up,conc,h1,s8 hb hx a,s8 hb hx b]
 | .agg cs=>by simp only [up,conc,s8 hb hx cs]
 | .tuple cs=>by simp only [up,conc,s8 hb hx cs]
 | .bool _=>by simp [up,conc]
 | .int _ _=>by simp [up,conc]
 | .float _ _=>by simp [up,conc]
 | .complex _ _ _=>by simp [up,conc]
 | .string _=>by simp [up,conc]
 | .map _=>by simp [up,conc]
 | .chan _=>by simp [up,conc]
 | .nilFunc=>by simp [up,conc]
 | .nilIface=>by simp [up,conc]
 | .iface _ _=>by simp [up,conc]
theorem s8 {nm:Nat→Nat}(hb:∀b,ρ.b (nm b)=b)(hx:∀b,ρ.x (nm b)=0):∀a:Array Value,rW ρ (upA nm a)=a
 |⟨l⟩=>by simp only [upA,rW,km hb hx l]
theorem km {nm:Nat→Nat}(hb:∀b,ρ.b (nm b)=b)(hx:∀b,ρ.x (nm b)=0):∀l:List Value,qm ρ (upL nm l)=l
 |[]=>rfl
 |v::r=>by simp only [upL,qm,mF hb hx v,km hb hx r]
end
def bdFn:Fn→Nat
 | .yield l=>l+1
 |_=>0
mutual
def bd:Value→Nat
 | .pointer (some a)=>a.block+1
 | .slice (some a) _ _=>a.block+1
 | .func f a b=>bdFn f+bdA a+bdA b
 | .agg cs=>bdA cs
 | .tuple cs=>bdA cs
 |_=>0
def bdA:Array Value→Nat
 |⟨l⟩=>bdL l
def bdL:List Value→Nat
 |[]=>0
 |v::r=>bd v+bdL r
end
theorem kv (ha:Agr m ρ ρ'){a:Addr}(h:a.block<m):ρ'.addr a=ρ.addr a:=by
 unfold Ren.addr
 rw [(ha _ h).1]
mutual
theorem zap:∀(v:Value) (m:Nat),bd v≤m→Nb m v
 | .pointer none,m,_=>fun ρ ρ' _=>by simp
 | .pointer (some a),m,h=>fun ρ ρ' ha=>by
  simp only [bd] at h
  simp only [conc,kv ha (show a.block<m by omega)]
 | .slice none _ _,m,_=>fun ρ ρ' _=>by simp
 | .slice (some a) l c,m,h=>fun ρ ρ' ha=>by
  simp only [bd] at h
  simp only [conc,kv ha (show a.block<m by omega),(ha _ (show a.block<m by omega)).2]
 | .func f a b,m,h=>fun ρ ρ' ha=>by
  simp only [bd] at h
  have h1:ρ'.fn f=ρ.fn f:=by
   cases f<;>simp [Ren.fn]
   rename_i l
   exact (ha l (by simp only [bdFn] at h;omega)).1
  simp only [conc,h1,lD a m zo ρ ρ' ha,lD b m zo ρ ρ' ha]
 | .agg cs,m,h=>fun ρ ρ' ha=>by
  simp only [bd] at h
  simp only [conc,lD cs m h ρ ρ' ha]
 | .tuple cs,m,h=>fun ρ ρ' ha=>by
  simp only [bd] at h
  simp only [conc,lD cs m h ρ ρ' ha]
 | .bool _,m,_=>fun ρ ρ' _=>by simp [conc]
 | .int _ _,m,_=>fun ρ ρ' _=>by simp [conc]
 | .float _ _,m,_=>fun ρ ρ' _=>by simp [conc]
 | .complex _ _ _,m,_=>fun ρ ρ' _=>by simp [conc]
 | .string _,m,_=>fun ρ ρ' _=>by simp [conc]
 | .map _,m,_=>fun ρ ρ' _=>by simp [conc]
 | .chan _,m,_=>fun ρ ρ' _=>by simp [conc]
 | .nilFunc,m,_=>fun ρ ρ' _=>by simp [conc]
 | .nilIface,m,_=>fun ρ ρ' _=>by simp [conc]
 | .iface _ _,m,_=>fun ρ ρ' _=>by simp [conc]
theorem lD:∀(a:Array Value) (m:Nat),bdA a≤m→∀ρ ρ':Ren,Agr m ρ ρ'→rW ρ' a=rW ρ a
 |⟨l⟩,m,h=>fun ρ ρ' ha=>by
  simp only [bdA] at h
  simp only [rW,bC l m h ρ ρ' ha]
theorem bC:∀(l:List Value) (m:Nat),bdL l≤m→∀ρ ρ':Ren,Agr m ρ ρ'→qm ρ' l=qm ρ l
 |[],m,_=>fun ρ ρ' _=>rfl
 |v::r,m,h=>fun ρ ρ' ha=>by
  simp only [bdL] at h
  simp only [qm,zap v m zo ρ ρ' ha,bC r m zo ρ ρ' ha]
end
theorem ks:∀{l:List Value} {v:Value},v∈l→bd v≤bdL l:=by
 intro l
 induction l with
 |nil=>intro v hv;cases hv
 |cons a l ih=>
  intro v hv
  simp only [bdL]
  rcases List.mem_cons.1 hv with rfl|hv
  ·omega
  have:=ih hv;omega
def vO (W:World)(b:Nat):Option (List Value):=match W.heap[b]? with|some (.cells c _ _)=>some c.toList|_=>none
noncomputable def wh (nm:Nat→Nat)(W:World):Nat→Hp
 |0=>.lf
 |k+1=>match vO W k with|some c=>Tr.put (wh nm W k) (nm k) (some (.ro (c.map (up nm))))|none=>wh nm W k
theorem iB {nm:Nat→Nat}(hi:∀a b,nm a=nm b→a=b)(W:World):∀k x y,(wh nm W k).at x=some y↔∃b,b<k∧x=nm b∧∃c,vO W b=some c∧y=.ro (c.map (up nm)):=by
 intro k
 induction k with
 |zero=>
  intro x y
  constructor
  ·intro h;cases h
  rintro ⟨b,hb,_⟩;omega
 |succ k ih=>
  intro x y
  unfold wh
  cases hc:vO W k with
  |none=>
   simp only
   rw [ih]
   constructor
   ·rintro ⟨b,hb,h⟩;exact ⟨b,zo,h⟩
   rintro ⟨b,hb,rfl,c,h1,h2⟩
   have:b≠k:=fun e=>by rw [e,hc] at h1;cases h1
   exact ⟨b,zo,rfl,c,h1,h2⟩
  |some c=>
   simp only
   show Tr.get none (Tr.put (wh nm W k) (nm k) _) x=some y↔_
   rw [Tr.get_put none rfl]
   by_cases hx:x=nm k
   ·rw [if_pos hx]
    constructor
    ·intro h;injection h with h;exact ⟨k,zo,hx,c,hc,h.symm⟩
    rintro ⟨b,hb,e,c',h1,h2⟩
    have hbk:b=k:=hi _ _ (e.symm.trans hx)
    rw [hbk,hc] at h1
    injection h1 with h1
    rw [h2,h1]
   rw [if_neg hx]
   show (wh nm W k).at x=some y↔_
   rw [ih]
   constructor
   ·rintro ⟨b,hb,h⟩;exact ⟨b,zo,h⟩
   rintro ⟨b,hb,e,h⟩
   have:b≠k:=fun ee=>hx (by rw [e,ee])
   exact ⟨b,zo,e,h⟩
def nm (b:Nat):Nat:=if b=1∨b=0∨b=4 then 3*b else 3*b+2
theorem ot (a b:Nat)(h:nm a=nm b):a=b:=by
 unfold nm at h
 split at h<;>split at h<;>omega
def ren0:Ren:=⟨fun x=>x/3,fun _=>0,fun _ _=>rfl,fun g=>by simp⟩
theorem rz (b:Nat):ren0.b (nm b)=b:=by
 unfold nm ren0
 split<;>simp<;>omega
theorem zd2 (h:b<n):nm b<3*n:=by
 unfold nm
 split<;>omega
noncomputable def wH (W:World):Hp:=wh nm W W.heap.size
theorem zb5 (W:World):Sim rel ren0 (wH W) W:=by
 refine ⟨fun x y h=>?_,fun x x' h h' e=>?_⟩
 ·obtain ⟨b,hb,rfl,c,hc,rfl⟩:=(iB ot W _ _ _).1 h
  unfold vO at hc
  split at hc
  ·rename_i c' e fz hW
   injection hc with hc
   subst hc
   refine ⟨_,by rw [rz];exact hW,e,fz,?_⟩
   rw [List.map_map]
   have:(c'.toList.map (conc ren0 ∘ up nm))=c'.toList:=by
    conv=>rhs;rw [←List.map_id c'.toList]
    exact List.map_congr_left fun v _=>mF rz (fun _=>rfl) v
   rw [this]
  cases hc
 obtain ⟨y,hy⟩:=Option.isSome_iff_exists.1 h
 obtain ⟨y',hy'⟩:=Option.isSome_iff_exists.1 h'
 obtain ⟨b,_,rfl,_⟩:=(iB ot W _ _ _).1 hy
 obtain ⟨b',_,rfl,_⟩:=(iB ot W _ _ _).1 hy'
 rw [rz,rz] at e
 rw [e]
structure Wn (W:World)(n:Nat):Prop where
 sz:W.heap.size≤n
 le:∀(b:Nat) (c:Array Value) (e:TypeId) (fz:Nat×Nat),W.heap[b]?=some (Obj.cells c e fz)→∀v∈c.toList,bd (up nm v)≤3*n
theorem zdr (W:World)(args:List Value):∃n,20≤n∧Wn W n∧HNb (3*n) (wH W)∧∀v∈args,bd v≤3*n:=by
 have key:∀k,∃m,∀b,b<k→∀c,vO W b=some c→bdL (c.map (up nm))≤m:=by
  intro k
  induction k with
  |zero=>exact ⟨0,fun b hb=>by omega⟩
  |succ k ih=>
   obtain ⟨m,hm⟩:=ih
   cases hc:vO W k with
   |none=>exact ⟨m,fun b hb c h=>hm b (by (have:b≠k:=fun e=>by rw [e,hc] at h;cases h);omega) c h⟩
   |some c'=>
    refine ⟨m+bdL (c'.map (up nm)),fun b hb c h=>?_⟩
    by_cases hbk:b=k
    ·rw [hbk,hc] at h;injection h with h;subst h;omega
    have:=hm b zo c h;omega
 obtain ⟨m,hm⟩:=key W.heap.size
 refine ⟨20+W.heap.size+m+bdL args,zo,⟨zo,fun b c e fz hW v hvm=>?_⟩,fun x y h=>?_,fun v hv=>by have:=ks hv;omega⟩
 ·have hb:b<W.heap.size:=by
   rcases Nat.lt_or_ge b W.heap.size with h'|h'
   ·exact h'
   rw [Array.getElem?_eq_none h'] at hW;cases hW
  have h1:=hm b hb c.toList (by unfold vO;rw [hW])
  have h2:=ks (List.mem_map_of_mem (f:=up nm) hvm)
  omega
 obtain ⟨b,hb,rfl,c,hc,rfl⟩:=(iB ot W _ _ _).1 h
 exact ⟨zd2 zo,fun v hv=>zap v _ (by have:=ks hv;have:=hm b hb c hc;omega)⟩
theorem mR {W:World}{c:Array Value}{fz:Nat×Nat}(h:W.heap[b]?=some (.cells c e fz)):hv (wH W) (nm b)=some (.ro (c.toList.map (up nm))):=by
 have hb:b<W.heap.size:=by
  rcases Nat.lt_or_ge b W.heap.size with h'|h'
  ·exact h'
  rw [Array.getElem?_eq_none h'] at h;cases h
 exact za2 ((iB ot W _ _ _).2 ⟨b,hb,rfl,_,by unfold vO;rw [h],rfl⟩)
theorem jS {W:World}(f:FuncId)(args:List Value)(k:Nat)(hrun:∀n,20≤n→Wn W n→(∀v∈args.map (up nm),bd v≤3*n)→VF (cal k) f (args.map (up nm)) (hv (wH W)) n fun v=>v=.bool true):
  Calls Tryz.prog f args.toArray W fun e w'=>e=.returned (.bool true)∧RowKit.Below W.heap.size W w':=by
 obtain ⟨n,hn,hs,hnb,hbd⟩:=zdr W (args.map (up nm))
 have ha:∀v∈args.map (up nm),Nb (3*n) v:=fun v hv=>zap v _ (hbd v hv)
 obtain ⟨v,h',n',w,hc,e1,e2,e3,e4⟩:=hrun n hn hs hbd
 rw [e1,e2,e3,e4] at hc
 obtain ⟨⟨v2,h2,n2,w2⟩,hx,hy⟩:=(zbp k).call f (args.map (up nm)) (wH W) n _ hc
 obtain ⟨e1,e2,e3,e4⟩:v2=.bool true∧hv h2=hv (wH W)∧n2=n∧w2=[]:=by
  simpa [rv] using hy
 subst e1 e3 e4
 obtain ⟨_,hcall⟩:=(zdd k).call _ _ _ _ _ _ _ _ hx 0 ren0 W (zb5 W) hnb ha
 have hargs:((args.map (up nm)).map (conc ren0))=args:=by
  rw [List.map_map]
  conv=>rhs;rw [←List.map_id args]
  exact List.map_congr_left fun v _=>mF rz (fun _=>rfl) v
 rw [hargs] at hcall
 refine (callsIn_wide.1 hcall).mono fun e w' ⟨ρ',he,hp⟩=>⟨by rw [he];simp,?_⟩
 exact ⟨hp.os,hp.tape,hp.out,hp.size,fun j hj=>hp.fr j hj fun b hb=>absurd hb List.not_mem_nil⟩
end Go.Proofs.YtlmbghgklnmlkaaGreatDoor
namespace Go.Proofs.YtlmbghgklnmlkaaGreatDoor
open Go Go.GL Go.ChangeShapes Go.WideShapes Go.RowKit
section
set_option maxRecDepth 100000
variable {H:Type}{fuel n:Nat}{e t:TypeId}{cs:List Value}
theorem mg {enc:TypeId×Value→H}{P:Program}{w:World}{base:Nat}{sp:Nat→Bool}{held:Bool}{k:IntKind}{c:Value}{y:DataW H×List MemPlace}
  (ht:P.underlying t=some (.int k))(h:DataW.trod enc P w base sp held fuel t [c]=some y):∃n,c=.int k n∧y=(.lit (.int k n),[]):=by
 cases fuel with
 |zero=>simp [DataW.trod] at h
 |succ fuel=>
  cases c<;>simp [DataW.trod,ht] at h
  rename_i k' n
  obtain ⟨⟨rfl,_⟩,rfl⟩:=h
  exact ⟨n,rfl,rfl⟩
theorem pI {enc:TypeId×Value→H}{P:Program}{w:World}{base:Nat}{sp:Nat→Bool}{held:Bool}{k:IntKind}{l:List Int}{p:List MemPlace}
  (ht:P.underlying t=some (.array n e))(he:P.underlying e=some (.int k))(hce:P.cellsOf e=1)(hct:P.cellsOf t=n)
  (h:DataW.trod enc P w base sp held fuel t cs=some (.agg (l.map fun z=>.lit (.int k z)),p)):cs=l.map fun z=>Value.int k z:=by
 cases fuel with
 |zero=>simp [DataW.trod] at h
 |succ fuel=>
  simp only [DataW.trod,ht] at h
  split at h
  ·rename_i hl
   rw [hct] at hl
   rw [Option.map_eq_some_iff] at h
   obtain ⟨xs,hx,hy⟩:=h
   simp only [Prod.mk.injEq,DataW.agg.injEq] at hy
   obtain ⟨hy,_⟩:=hy
   have hlen:=mapM_some_length hx
   rw [List.length_range] at hlen
   have hll:l.length=n:=by
    have:=congrArg List.length hy
    simp at this
    omega
   apply List.ext_getElem?
   intro i
   by_cases hi:i<n
   ·have hg:=mapM_some_get hx i i (by simp [hi])
    obtain ⟨y,hxi⟩:∃y,xs[i]?=some y:=⟨xs[i]'zo,List.getElem?_eq_getElem zo⟩
    rw [hxi,hce,Nat.mul_one] at hg
    have hd:(cs.drop i).take 1=[cs[i]'zo]:=by
     rw [List.drop_eq_getElem_cons zo]
     rfl
    rw [hd] at hg
    obtain ⟨z,hz,rfl⟩:=mg he hg
    have h2:=congrArg (fun q=>q[i]?) hy
    simp only [List.getElem?_map,hxi,Option.map_some] at h2
    obtain ⟨z',hz'⟩:∃z',l[i]?=some z':=⟨l[i]'zo,List.getElem?_eq_getElem zo⟩
    rw [hz'] at h2
    simp only [Option.map_some,Option.some.injEq,DataW.lit.injEq,Lit.int.injEq,true_and] at h2
    rw [List.getElem?_eq_getElem zo,hz,List.getElem?_map,hz',h2]
    rfl
   rw [List.getElem?_eq_none zo,List.getElem?_eq_none (by simp;omega)]
  cases h
theorem iF {P:Program}{W:World}{nme:String}{g:Nat}{cs:Array Value}(hg:P.globalNamed nme=some g)(hv:W.var? P nme=some cs):∃e fz,W.heap[g]?=some (.cells cs e fz):=by
 unfold World.var? at hv
 rw [hg] at hv
 simp only [Option.bind_some] at hv
 split at hv
 ·rename_i cs' e fz h
  injection hv with hv
  subst hv
  exact ⟨e,fz,h⟩
 cases hv
theorem up_u (nm:Nat→Nat)(k:IntKind)(l:List Int):(GK.u k l).map (up nm)=GK.u k l:=by
 unfold GK.u
 rw [List.map_map]
 exact List.map_congr_left fun z _=>rfl
def jr:List (String×DataW Unit):=Rows.simplexRawRow.laid
def pp (i:Nat):String:=match jr[i]? with|some x=>x.1|none=> ""
theorem g32:Tryz.prog.globalNamed (pp 0)=some 4:=by kernel_rfl
theorem g64:Tryz.prog.globalNamed (pp 1)=some 1:=by kernel_rfl
theorem g10:Tryz.prog.globalNamed (pp 2)=some 0:=by kernel_rfl
def dJ (t:TypeId)(n:Nat)(k:IntKind):Prop:=∃e,Tryz.prog.underlying t=some (.array n e)∧Tryz.prog.underlying e=some (.int k)∧Tryz.prog.cellsOf e=1∧Tryz.prog.cellsOf t=n
theorem rh {W:World}{nme:String}{g t:Nat}{k:IntKind}{l:List Int}{cs:Array Value}{p:List MemPlace}(hg:Tryz.prog.globalNamed nme=some g)(hvar:W.var? Tryz.prog nme=some cs)(hT:dJ t n k)
  (hd:DataW.trod (fun _=>()) Tryz.prog W 0 (fun _=>true) false fuel t cs.toList=some (.agg (l.map fun z=>.lit (.int k z)),p)):hv (wH W) (nm g)=some (.ro (GK.u k l)):=by
 obtain ⟨e,h1,h2,h3,h4⟩:=hT
 have hc:=pI h1 h2 h3 h4 hd
 obtain ⟨e',fz,hb⟩:=iF hg hvar
 have:=mR hb
 rw [this,hc]
 show some (BF.ro ((GK.u k l).map (up nm)))=_
 rw [up_u]
theorem ty32:(Tryz.prog.globals[4]?).map (·.type)=some 263:=by kernel_rfl
theorem ty64:(Tryz.prog.globals[1]?).map (·.type)=some 260:=by kernel_rfl
theorem ty10:(Tryz.prog.globals[0]?).map (·.type)=some 244:=by kernel_rfl
theorem zdt:dJ 263 32 .u8:=⟨5,by kernel_rfl,by kernel_rfl,by kernel_rfl,by kernel_rfl⟩
theorem zds:dJ 260 64 .u8:=⟨5,by kernel_rfl,by kernel_rfl,by kernel_rfl,by kernel_rfl⟩
theorem zdu:dJ 244 20 .u64:=⟨170,by kernel_rfl,by kernel_rfl,by kernel_rfl,by kernel_rfl⟩
theorem eC {W:World}(h:laidMet Tryz.prog jr W):GK.G (hv (wH W)):=by
 obtain ⟨ps,hL,_,_⟩:=h
 obtain ⟨g1,t1,cs1,fu1,p1,q1,e1,u1,v1,d1,hL,_⟩:=hL
 obtain ⟨g2,t2,cs2,fu2,p2,q2,e2,u2,v2,d2,hL,_⟩:=hL
 obtain ⟨g3,t3,cs3,fu3,p3,q3,e3,u3,v3,d3,_,_⟩:=hL
 obtain rfl:=Option.some.inj (g32.symm.trans e1)
 obtain rfl:=Option.some.inj (g64.symm.trans e2)
 obtain rfl:=Option.some.inj (g10.symm.trans e3)
 obtain rfl:=Option.some.inj (ty32.symm.trans u1)
 obtain rfl:=Option.some.inj (ty64.symm.trans u2)
 obtain rfl:=Option.some.inj (ty10.symm.trans u3)
 exact ⟨rh e2 v2 zds d2,rh e3 v3 zdu d3,rh e1 v1 zdt d1⟩
end
section
set_option maxRecDepth 100000
variable {fuel i l n sz:Nat}{e t:TypeId}{v:Value}{α:Type}{cs:List Value}
mutual
theorem cG {H:Type}:∀d:DataW H,1≤Rows.uptoBulk d
 | .lit (.string b)=>by simp [Rows.uptoBulk]
 | .lit (.bool b)=>by simp [Rows.uptoBulk]
 | .lit (.int k b)=>by simp [Rows.uptoBulk]
 | .lit (.float k b)=>by simp [Rows.uptoBulk]
 | .lit .nil=>by simp [Rows.uptoBulk]
 | .nil=>by simp [Rows.uptoBulk]
 | .ptr d=>by simp [Rows.uptoBulk]
 | .slice _ _=>by simp [Rows.uptoBulk]
 | .agg _=>by simp [Rows.uptoBulk]
 | .iface _ d=>by simp [Rows.uptoBulk]
 | .map _=>by simp [Rows.uptoBulk]
 | .held _=>by simp [Rows.uptoBulk]
end
theorem mG {H:Type}:∀l:List (DataW H),l.length≤Rows.uptoBulkAll l:=by
 intro l
 induction l with
 |nil=>simp
 |cons d l ih=>have:=cG d;simp only [List.length_cons,Rows.uptoBulkAll];omega
theorem rZ {H:Type}{d:DataW H}:∀{l:List (DataW H)},d∈l→Rows.uptoBulk d≤Rows.uptoBulkAll l:=by
 intro l
 induction l with
 |nil=>intro h;cases h
 |cons e l ih=>
  intro h
  simp only [Rows.uptoBulkAll]
  rcases List.mem_cons.1 h with rfl|h
  ·omega
  have:=ih h;omega
theorem cI {a:Addr}{c:Nat}(h:bd (up nm (.slice (some a) l c))≤3*n):nm a.block<3*n:=by
 simp only [up,bd] at h
 omega
theorem o4 (a:Addr)(i:Nat):(a.add i).block=a.block:=by unfold Addr.add;split<;>rfl
theorem ew (a:Addr)(i:Nat):(a.add i).off=a.off+i:=by unfold Addr.add;split<;>simp_all
theorem oZ (a:Addr):a.add 0=a:=by unfold Addr.add;simp
section
variable {H:Type}{enc:TypeId×Value→H}{W:World}{held:Bool}
theorem qE {d:DataW H}{p:List MemPlace}(hW:Wn W n)(ht:Tryz.prog.underlying t=some (.slice e))(hsz:Tryz.prog.cellsOf e=sz)(h0:0<sz)(h:DataW.trod enc Tryz.prog W 0 (fun _=>true) held fuel t [v]=some (d,p))(hb:bd (up nm v)≤3*n):
  ∃(a:Option Addr) (l c:Nat) (cells:List Value),v=.slice a l c∧Sl (hv (wH W)) n sz (up nm v) (cells.map (up nm))∧cells.length=l*sz∧l≤Rows.uptoBulk d∧(∀x∈cells,bd (up nm x)≤3*n)∧
   ∀i,i<l→∃fu D q,DataW.trod enc Tryz.prog W 0 (fun _=>true) held fu e ((cells.drop (i*sz)).take sz)=some (D,q)∧Rows.uptoBulk D≤Rows.uptoBulk d:=by
 rcases Go.Deep.open_slice ht h with ⟨hv,hd⟩|⟨a,len,cap,m,fu,D,Pl,hv,_,hle,_,hm,hx,hel⟩
 ·injection hv with hv
  injection hd with hd
  subst hv hd
  exact ⟨none,0,0,[],rfl,.nil (.inl rfl),by simp,Nat.zero_le _,(fun x hx=>by cases hx),fun i hi=>absurd hi (Nat.not_lt_zero i)⟩
 injection hv with hv
 injection hx with hx _
 subst hv hx
 have hm':m=cap:=by rw [hm];rfl
 subst hm'
 rw [hsz] at hel
 have hbl:nm a.block<3*n:=cI hb
 have hlb:len≤Rows.uptoBulk (DataW.slice ((List.range len).map D) ((List.range (m-len)).map fun j=>D (len+j))):=by
  have:=mG ((List.range len).map D)
  rw [List.length_map,List.length_range] at this
  simp only [Rows.uptoBulk]
  omega
 have hmem:∀i,i<len→Rows.uptoBulk (D i)≤Rows.uptoBulk (DataW.slice ((List.range len).map D) ((List.range (m-len)).map fun j=>D (len+j))):=fun i hi=>by
  have:=rZ (d:=D i) (l:=(List.range len).map D) (List.mem_map_of_mem (List.mem_range.2 hi))
  simp only [Rows.uptoBulk]
  omega
 by_cases hc0:m=0
 ·have hl0:len=0:=zo
  subst hl0
  refine ⟨some a,0,m,[],rfl,.nil (.inr ⟨_,_,_,rfl,hbl⟩),by simp,Nat.zero_le _,(fun x hx=>by cases hx),fun i hi=>absurd hi (Nat.not_lt_zero i)⟩
 have hcell:∀i,i<m→∃cs,DataW.trod enc Tryz.prog W 0 (fun _=>true) held fu e cs=some (D i,Pl i)∧cs.length=sz∧∀j,j<sz→W.cell? ((a.add (i*sz)).add j)=cs[j]?:=fun i hi=>by
  obtain ⟨cs,h1,h2⟩:=hel i hi
  obtain ⟨_,h3,h4⟩:=World.cells?_some h1
  exact ⟨cs,h2,h3,h4⟩
 have hblk:a.spot=none∧∃c e' fz,W.heap[a.block]?=some (.cells c e' fz):=by
  obtain ⟨cs,_,h2,h1⟩:=hcell 0 zo
  have h1:=h1 0 h0
  rw [Nat.zero_mul,oZ,oZ,List.getElem?_eq_getElem zo] at h1
  unfold World.cell? at h1
  split at h1
  ·split at h1
   ·cases h1
   rename_i hs
   exact ⟨by simpa using hs,_,_,_,by assumption⟩
  cases h1
 obtain ⟨hspot,c,e',fz,hbk⟩:=hblk
 obtain ⟨b,off,sp⟩:=a
 simp only at hspot hbk hbl
 subst hspot
 have hget:∀i,i<m→∃cs,DataW.trod enc Tryz.prog W 0 (fun _=>true) held fu e cs=some (D i,Pl i)∧cs.length=sz∧∀j,j<sz→c[off+i*sz+j]?=cs[j]?:=fun i hi=>by
  obtain ⟨cs,h2,h4,h3⟩:=hcell i hi
  refine ⟨cs,h2,h4,fun j hj=>?_⟩
  rw [←h3 j hj]
  have e1:((Addr.add ⟨b,off,none⟩ (i*sz)).add j).block=b:=by rw [o4,o4]
  have e2:((Addr.add ⟨b,off,none⟩ (i*sz)).add j).off=off+i*sz+j:=by rw [ew,ew]
  have e3:((Addr.add ⟨b,off,none⟩ (i*sz)).add j).spot=none:=by
   unfold Addr.add
   split
   ·split<;>rfl
   rfl
  unfold World.cell?
  rw [e1,hbk]
  simp only [e2,e3]
  rfl
 have hsz':off+m*sz≤c.size:=by
  obtain ⟨cs,_,h3,h2⟩:=hget (m-1) zo
  have h2:=h2 (sz-1) zo
  rw [List.getElem?_eq_getElem zo] at h2
  rcases Nat.lt_or_ge (off+(m-1)*sz+(sz-1)) c.size with h'|h'
  ·have:(m-1)*sz+sz=m*sz:=by rw [←Nat.succ_mul];congr 1;omega
   omega
  rw [Array.getElem?_eq_none h'] at h2;cases h2
 have hlm:len*sz≤m*sz:=Nat.mul_le_mul_right _ hle
 have hcl:((c.toList.drop off).take (len*sz)).length=len*sz:=by
  rw [List.length_take,List.length_drop,Array.length_toList];omega
 refine ⟨some ⟨b,off,none⟩,len,m,(c.toList.drop off).take (len*sz),rfl,.at_ hbl (mR hbk) rfl hle (by show off+len*sz≤(c.toList.map (up nm)).length;simp;omega) (by rw [List.map_take,List.map_drop]),hcl,hlb,fun x hx=>hW.le b c e' fz hbk x (List.mem_of_mem_drop (List.mem_of_mem_take hx)),fun i hi=>?_⟩
 obtain ⟨cs,h1,h3,h4⟩:=hget i zo
 have hcs:(((c.toList.drop off).take (len*sz)).drop (i*sz)).take sz=cs:=by
  have hil:i*sz+sz≤len*sz:=by rw [←Nat.succ_mul];exact Nat.mul_le_mul_right _ hi
  apply List.ext_getElem?
  intro j
  by_cases hj:j<sz
  ·rw [List.getElem?_take_of_lt hj,List.getElem?_drop,List.getElem?_take_of_lt zo,List.getElem?_drop,Array.getElem?_toList,←h4 j hj,Nat.add_assoc]
  rw [List.getElem?_eq_none (by rw [List.length_take,List.length_drop,hcl];omega),List.getElem?_eq_none zo]
 exact ⟨fu,D i,Pl i,by rw [hcs];exact h1,hmem i hi⟩
theorem ag {g:α→List Value}{Q:α→Prop}:∀{l:Nat} {cells:List Value},cells.length=l*sz→(∀i,i<l→∃x,(cells.drop (i*sz)).take sz=g x∧Q x)→∃xs:List α,xs.length=l∧cells=xs.flatMap g∧∀x∈xs,Q x:=by
 intro l
 induction l with
 |zero=>intro cells hl _;exact ⟨[],rfl,List.length_eq_zero_iff.1 (by rw [hl,Nat.zero_mul]),fun x hx=>by cases hx⟩
 |succ l ih=>
  intro cells hl h
  obtain ⟨x,hx,hq⟩:=h 0 zo
  rw [Nat.zero_mul,List.drop_zero] at hx
  obtain ⟨xs,h1,h2,h3⟩:=ih (cells:=cells.drop sz) (by rw [List.length_drop,hl,Nat.succ_mul];omega) (fun i hi=>by
   obtain ⟨y,hy,hq⟩:=h (i+1) zo
   exact ⟨y,by rw [List.drop_drop,←hy,Nat.succ_mul,Nat.add_comm],hq⟩)
  refine ⟨x::xs,by rw [List.length_cons,h1],?_,fun y hy=>?_⟩
  ·rw [List.flatMap_cons,←hx,←h2,List.take_append_drop]
  rcases List.mem_cons.1 hy with rfl|hy
  ·exact hq
  exact h3 y hy
theorem qZ {c:Value}{y:DataW H×List MemPlace}(ht:Tryz.prog.underlying t=some .string)(h:DataW.trod enc Tryz.prog W 0 (fun _=>true) held fuel t [c]=some y):∃s:List UInt8,c=.string ⟨⟨s⟩⟩:=by
 cases fuel with
 |zero=>simp [DataW.trod] at h
 |succ fuel=>
  cases c<;>simp [DataW.trod,ht] at h
  rename_i s
  exact ⟨s.data.toList,rfl⟩
theorem dn {cells:List Value}(hl:cells.length=l*1)(hi:i<l):∃v,(cells.drop (i*1)).take 1=[v]:=by
 rw [Nat.mul_one] at hl ⊢
 exact ⟨cells[i]'zo,by rw [List.drop_eq_getElem_cons zo];rfl⟩
theorem vy {d:DataW H}{p:List MemPlace}(hW:Wn W n)(ht:Tryz.prog.underlying t=some (.slice e))(he:Tryz.prog.underlying e=some .string)(hsz:Tryz.prog.cellsOf e=1)(h:DataW.trod enc Tryz.prog W 0 (fun _=>true) held fuel t [v]=some (d,p))(hb:bd (up nm v)≤3*n):
  ∃S:List (List UInt8),Sl (hv (wH W)) n 1 (up nm v) (strs S)∧S.length≤Rows.uptoBulk d:=by
 obtain ⟨a,l,c,cells,rfl,h1,h2,h3,_,h5⟩:=qE hW ht hsz zd h hb
 obtain ⟨L,h6,h7,h9⟩:=ag (g:=fun s:List UInt8=>[Value.string ⟨⟨s⟩⟩]) (Q:=fun _=>True) h2 (fun i hi=>by
  obtain ⟨v,hv⟩:=dn h2 hi
  obtain ⟨fu,D,q,h8,_⟩:=h5 i hi
  rw [hv] at h8 ⊢
  obtain ⟨z,rfl⟩:=qZ he h8
  exact ⟨z,rfl,trivial⟩)
 refine ⟨L,?_,zo⟩
 have:cells.map (up nm)=strs L:=by
  rw [h7]
  clear h9 h7 h6
  induction L with
  |nil=>rfl
  |cons z L ih=>rw [List.flatMap_cons,List.map_append,ih];rfl
 rw [←this];exact h1
noncomputable def parts (t:TypeId):Option (List (TypeId×Nat)):=match Tryz.prog.underlying t with|some (.struct fs)=>some (fs.toList.map fun f=>(f.type,f.offset))|_=>none
theorem ri {L:List (TypeId×Nat)}{d:DataW H}{p:List MemPlace}(hp:parts t=some L)(h:DataW.trod enc Tryz.prog W 0 (fun _=>true) held fuel t cs=some (d,p)):
  cs.length=Tryz.prog.cellsOf t∧∃fu xs,d=.agg xs∧∀(i:Nat) (f:TypeId×Nat),L[i]?=some f→∃D q,DataW.trod enc Tryz.prog W 0 (fun _=>true) held fu f.1 ((cs.drop f.2).take (Tryz.prog.cellsOf f.1))=some (D,q)∧D∈xs:=by
 cases fuel with
 |zero=>simp [DataW.trod] at h
 |succ fuel=>
  unfold parts at hp
  split at hp
  ·rename_i fs hfs
   injection hp with hp
   simp only [DataW.trod,hfs] at h
   split at h
   ·rename_i hl
    refine ⟨hl,?_⟩
    rw [Option.map_eq_some_iff] at h
    obtain ⟨xs,hx,hy⟩:=h
    injection hy with hy _
    refine ⟨fuel,xs.map (·.1),hy.symm,fun i f hf=>?_⟩
    subst hp
    rw [List.getElem?_map,Option.map_eq_some_iff] at hf
    obtain ⟨g,hg,rfl⟩:=hf
    have hlen:=mapM_some_length hx
    have hi:i<fs.toList.length:=by
     rcases Nat.lt_or_ge i fs.toList.length with h'|h'
     ·exact h'
     rw [List.getElem?_eq_none h'] at hg;cases hg
    have h2:=mapM_some_get hx i g hg
    obtain ⟨y,hxi⟩:∃y,xs[i]?=some y:=⟨xs[i]'zo,List.getElem?_eq_getElem zo⟩
    rw [hxi] at h2
    exact ⟨y.1,y.2,h2,List.mem_map_of_mem (List.mem_of_getElem? hxi)⟩
   cases h
  cases hp
theorem zbt {xs:List (DataW H)}{D:DataW H}(h:D∈xs):Rows.uptoBulk D≤Rows.uptoBulk (.agg xs):=by
 have:=rZ h
 simp only [Rows.uptoBulk]
 omega
end
end
section
set_option maxRecDepth 100000
variable {α:Type}{h:HF}{fuel n sz:Nat}{v:Value}{c cs:List Value}
theorem zd4 {l:List α}(h:l.length=4):∃a b c d,l=[a,b,c,d]:=by
 match l,h with
 |[a,b,c,d],_=>exact ⟨a,b,c,d,rfl⟩
theorem zd5 {l:List α}(h:l.length=3):∃a b c,l=[a,b,c]:=by
 match l,h with
 |[a,b,c],_=>exact ⟨a,b,c,rfl⟩
theorem ne:Tryz.prog.underlying 9=some .string:=by kernel_rfl
theorem mT:Tryz.prog.underlying 22=some (.slice 9):=by kernel_rfl
theorem zb7:Tryz.prog.underlying 23=some (.slice 45):=by kernel_rfl
theorem jV:Tryz.prog.cellsOf 9=1:=by kernel_rfl
theorem ah:Tryz.prog.cellsOf 22=1:=by kernel_rfl
theorem zde:Tryz.prog.cellsOf 23=1:=by kernel_rfl
theorem zdf:Tryz.prog.cellsOf 45=3:=by kernel_rfl
theorem c_lp:Tryz.prog.cellsOf 25=4:=by kernel_rfl
theorem zdz:parts 45=some [(22,0),(9,1),(9,2)]:=by kernel_rfl
theorem p_lp:parts 25=some [(22,0),(23,1),(22,2),(22,3)]:=by kernel_rfl
theorem Sl.sh (s:Sl h n sz v c):∃a l k,v=.slice a l k:=by
 cases s with
 |nil ha=>exact ⟨_,_,_,rfl⟩
 |at_ hb hx hc hcap hl he=>exact ⟨_,_,_,rfl⟩
theorem Rec.flat {D:Type}{P:List Value→D→Prop}{g:D→List Value}:∀{l:List D},(∀x∈l,(g x).length=sz∧P (g x) x)→Rec sz P (l.flatMap g) l:=by
 intro l
 induction l with
 |nil=>intro _;exact .nil
 |cons x l ih=>
  intro h
  rw [List.flatMap_cons]
  exact .cons (h x List.mem_cons_self).1 (h x List.mem_cons_self).2 (ih fun y hy=>h y (List.mem_cons_of_mem _ hy))
theorem Rec.map {D E:Type}{P:List Value→D→Prop}{P':List Value→E→Prop}{f:D→E}{l:List D}(r:Rec sz P cs l)(h:∀c d,P c d→P' c (f d)):Rec sz P' cs (l.map f):=by
 induction r with
 |nil=>exact .nil
 |cons hl hp hr ih=>exact .cons hl (h _ _ hp) ih
section
variable {H:Type}{enc:TypeId×Value→H}{W:World}{held:Bool}
theorem gi {d:DataW H}{p:List MemPlace}(hW:Wn W n)(h:DataW.trod enc Tryz.prog W 0 (fun _=>true) held fuel 23 [v]=some (d,p))(hb:bd (up nm v)≤3*n):
  ∃rs,RWS (hv (wH W)) n (up nm v) rs∧rs.length≤Rows.uptoBulk d∧∀r∈rs,r.A.length≤Rows.uptoBulk d:=by
 obtain ⟨a,l,c,cells,rfl,h1,h2,h3,h4,h5⟩:=qE hW zb7 zdf zd h hb
 obtain ⟨L,h6,h7,h9⟩:=ag (α:=RowD×Value) (g:=fun x=>[x.2,.string ⟨⟨x.1.lo⟩⟩,.string ⟨⟨x.1.hi⟩⟩]) (Q:=fun x=>Sl (hv (wH W)) n 1 (up nm x.2) (strs x.1.A)∧x.1.A.length≤Rows.uptoBulk d) h2 (fun i hi=>by
  obtain ⟨fu,D,q,h8,h8b⟩:=h5 i hi
  have hmem:∀x∈(cells.drop (i*3)).take 3,bd (up nm x)≤3*n:=fun x hx=>h4 x (List.mem_of_mem_drop (List.mem_of_mem_take hx))
  generalize (cells.drop (i*3)).take 3=cs at h8 hmem ⊢
  obtain ⟨hl,fu',xs,rfl,hx⟩:=ri zdz h8
  rw [zdf] at hl
  obtain ⟨c0,c1,c2,rfl⟩:=zd5 hl
  obtain ⟨D0,_,g0,m0⟩:=hx 0 _ rfl
  obtain ⟨_,_,g1,_⟩:=hx 1 _ rfl
  obtain ⟨_,_,g2,_⟩:=hx 2 _ rfl
  simp only [ah,jV] at g0 g1 g2
  have b0:=zbt m0
  obtain ⟨S,s1,s2⟩:=vy hW mT ne jV g0 (hmem c0 (by simp))
  obtain ⟨s,rfl⟩:=qZ ne g1
  obtain ⟨t,rfl⟩:=qZ ne g2
  exact ⟨(⟨S,s,t⟩,c0),rfl,s1,by show S.length≤_;omega⟩)
 refine ⟨L.map (·.1),⟨cells.map (up nm),h1,?_⟩,by rw [List.length_map];omega,fun r hr=>?_⟩
 ·have e:cells.map (up nm)=L.flatMap fun x=>[up nm x.2,.string ⟨⟨x.1.lo⟩⟩,.string ⟨⟨x.1.hi⟩⟩]:=by
   rw [h7]
   clear h9 h7 h6
   induction L with
   |nil=>rfl
   |cons z L ih=>rw [List.flatMap_cons,List.map_append,ih];rfl
  rw [e]
  refine (Rec.flat (sz:=3) (P:=fun c (x:RowD×Value)=>rowP c x.1 (hv (wH W)) n) fun x hx=>⟨rfl,?_⟩).map fun c d hd=>hd
  obtain ⟨q1,_⟩:=h9 x hx
  obtain ⟨a2,l2,k2,e2⟩:=q1.sh
  rw [e2] at q1 ⊢
  exact ⟨_,_,_,rfl,q1⟩
 obtain ⟨x,hx,rfl⟩:=List.mem_map.1 hr
 exact (h9 x hx).2
theorem zav {d:DataW H}{p:List MemPlace}(hW:Wn W n)(ha:∃cs,v=.agg cs)(h:DataW.Trod enc Tryz.prog W 0 (fun _=>true) held 25 v d p)(hb:bd (up nm v)≤3*n):
  ∃(ao:Option Addr) (lo co:Nat) (ar:Option Addr) (lr cr:Nat) (aw:Option Addr) (lw cw:Nat) (au:Option Addr) (lu cu:Nat) (q:LPD),up nm v=.agg #[.slice ao lo co,.slice ar lr cr,.slice aw lw cw,.slice au lu cu]∧Sl (hv (wH W)) n 1 (.slice ao lo co) (strs q.obj)∧RWS (hv (wH W)) n (.slice ar lr cr) q.rows∧Sl (hv (wH W)) n 1 (.slice aw lw cw) (strs q.lower)∧Sl (hv (wH W)) n 1 (.slice au lu cu) (strs q.upper):=by
 obtain ⟨cs,rfl⟩:=ha
 obtain ⟨fuel,h⟩:=h
 obtain ⟨hl,fu,xs,rfl,hx⟩:=ri p_lp h
 rw [c_lp] at hl
 obtain ⟨c0,c1,c2,c3,hcs⟩:=zd4 hl
 have hcs':cs=#[c0,c1,c2,c3]:=by
  cases cs
  simp [Value.cells] at hcs
  simp [hcs]
 subst hcs'
 have hbd:∀x∈[c0,c1,c2,c3],bd (up nm x)≤3*n:=fun x hx=>by
  have:=ks (List.mem_map_of_mem (f:=up nm) hx)
  have e:bd (up nm (.agg #[c0,c1,c2,c3]))=bdL ([c0,c1,c2,c3].map (up nm)):=rfl
  omega
 rw [hcs] at hx
 obtain ⟨D0,_,g0,m0⟩:=hx 0 _ rfl
 obtain ⟨D1,_,g1,m1⟩:=hx 1 _ rfl
 obtain ⟨D2,_,g2,m2⟩:=hx 2 _ rfl
 obtain ⟨D3,_,g3,m3⟩:=hx 3 _ rfl
 simp only [ah,zde] at g0 g1 g2 g3
 obtain ⟨O,e0,_⟩:=vy hW mT ne jV g0 (hbd c0 (by simp))
 obtain ⟨rs,e1,_⟩:=gi hW g1 (hbd c1 (by simp))
 obtain ⟨A,e2,_⟩:=vy hW mT ne jV g2 (hbd c2 (by simp))
 obtain ⟨B,e3,_⟩:=vy hW mT ne jV g3 (hbd c3 (by simp))
 obtain ⟨_,_,_,f0⟩:=e0.sh
 obtain ⟨cells,e1s,e1r⟩:=e1
 obtain ⟨_,_,_,f1⟩:=e1s.sh
 obtain ⟨_,_,_,f2⟩:=e2.sh
 obtain ⟨_,_,_,f3⟩:=e3.sh
 rw [f0] at e0
 rw [f1] at e1s
 rw [f2] at e2
 rw [f3] at e3
 refine ⟨_,_,_,_,_,_,_,_,_,_,_,_,⟨O,rs,A,B⟩,?_,e0,⟨cells,e1s,e1r⟩,e2,e3⟩
 show Value.agg #[up nm c0,up nm c1,up nm c2,up nm c3]=_
 rw [f0,f1,f2,f3]
end
end
section
set_option maxRecDepth 100000
theorem own:ownKnob Tryz.prog.godebug=none:=by kernel_rfl
theorem po:laidOutB Tryz.prog=true:=by kernel_rfl
def pm (c:Array Value):Obj→Obj
 | .cells _ t frozen=>.cells c t frozen
 |o=>o
noncomputable def oD (os:Os):World:=
 {World.holding Tryz.prog os ⟨#[],#[],[]⟩ with heap:=(((World.holding Tryz.prog os ⟨#[],#[],[]⟩).heap.modify 1 (pm GK.d64.toArray)).modify 0 (pm GK.p10.toArray)).modify 4 (pm GK.d32.toArray)}
theorem pn (os:Os)(args:Array Value):laidMet Tryz.prog jr ((oD os).forCall (fun _ _=>0) ⟨#[],args,[]⟩).memory:=
 laidMet_of_run' 8 (by kernel_rfl) (by kernel_rfl)
end
end Go.Proofs.YtlmbghgklnmlkaaGreatDoor
