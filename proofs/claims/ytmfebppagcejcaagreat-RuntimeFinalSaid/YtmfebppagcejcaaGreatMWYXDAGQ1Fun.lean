import Derived.Test.YtmfebppagcejcaaGreatMWYXDAGQ1Slices
set_option linter.all false
namespace Go.E
set_option linter.unusedVariables false
set_option linter.unusedSimpArgs false
def X.ao{W w:World}{O:cj}(h:X W w O):X W w [O.flatten]:=h.perm (by simp)
def X.zk{W w:World}{O:cj}(h:X W w [O.flatten]):X W w O:=h.perm (by simp)
def X.aQ{W w:World}{c:af}{O:cj}(h:X W w (c::O)):X W w [c,O.flatten]:=h.perm (by simp)
def X.JG{W w:World}{c d:af}{O:cj}(h:X W w (c::d::O)):X W w [c,d,O.flatten]:=h.perm (by simp)
def X.ak{W w:World}{c:af}{O:cj}(h:X W w [c,O.flatten]):X W w (c::O):=h.perm (by simp)
def X.cq{W w:World}{c d:af}{O:cj}(h:X W w [c,d,O.flatten]):X W w (c::d::O):=h.perm (by simp)
def X.rG{W w:World}{c d e:af}{O:cj}(h:X W w [c,d,e,O.flatten]):X W w (c::d::e::O):=h.perm (by simp)
def X.IB{W w:World}{c d e:af}{O:cj}(h:X W w (c::d::e::[O.flatten])):X W w (c::d::e::O):=h.perm (by simp)
def PZ{O:cj}:∀p∈O.flatten,p∈[O.flatten].flatten:=by simp_all
def Kv{O:cj}{c:af}(i:Nat)(h:O[i]?=some c):∀p∈[c].flatten,p∈[O.flatten].flatten:=by
 grind[List.flatten_cons,List.flatten_nil,List.mem_flatten,List.mem_of_getElem?]
def bl.ao{α:Type}{enc:α->fa}{sz:Nat}{O:cj}{a:cf}{n k:Nat}{xs:List α}(h:bl enc sz O a n k xs):bl enc sz [O.flatten] a n k xs:=h.ag PZ
def aF.elem{α:Type}{enc:α->fa}{E sz:Nat}{a:cf}{len cap:Nat}{xs:List α}{c:af}(d:aF enc E sz a len cap xs c)(i:Int)(h0:0<=i:=by omega)(h1:i<len:=by first|omega|decide):
 ∃x b off,xs[i.toNat]?=some x/\na [c] b (off+i.toNat*sz) (enc x)/\nJ a i len sz b (off+i.toNat*sz)/\a=some ⟨b,off,none⟩:=by
 let⟨x,b,o,hx,hp,he⟩:=bl.elem (d.dt (O:=[c]) 0 Z) i h0 h1;rcases d.2.2 with⟨d,⟨_,ha,_⟩|⟨h,g,d,ha,_⟩⟩
 ·omega
 ·let e:=he;let⟨p,d,f,_⟩:=e;rw[ha] at d;simp only[adh] at d;subst d;rw[fD] at f;simp only[Addr.mk.injEq] at f;obtain⟨rfl,rfl,_⟩:=f;exact⟨x,h,g,hx,hp,he,ha⟩
theorem bY{α:Type}{xs:List α}{i:Nat}{x:α}(h:xs[i]?=some x):xs.take (i+1)=xs.take i++[x]:=by
 rw[aeS,h,aeL]
def vk{α:Type}{xs a:List α}{i:Nat}{x y:α}(h:xs.take i=a.take i)(hx:xs[i]?=some x)(hy:a[i]?=some y)(e:x=y):xs.take (i+1)=a.take (i+1):=by
 rw[bY hx,bY hy,h,e]
def Fy{α:Type}{xs a:List α}{i:Nat}{x y:α}(hx:xs[i]?=some x)(hy:a[i]?=some y)(e:x≠y):xs≠a:=by
 grind
def yp{α:Type}{xs b:List α}{i:Nat}(h:xs.take i=b.take i)(h1:xs.length<=i)(a:b.length<=i):xs=b:=by
 grind[List.take_of_length_le]
def cg{α a:Type}{f:α->a}{xs:List α}{i:Nat}{x:α}(h:xs[i]?=some x):(xs.map f)[i]?=some (f x):=by simp_all
def all_succ{α:Type}{p:α->Bool}{xs:List α}{i:Nat}{x:α}(h:(xs.take i).all p=true)(hx:xs[i]?=some x)(e:p x=true):(xs.take (i+1)).all p=true:=by
 rw[bY hx,List.all_append,h];simp[e]
def s8{α:Type}{p:α->Bool}{xs:List α}{i:Nat}{x:α}(hx:xs[i]?=some x):(xs.take (i+1)).all p=((xs.take i).all p&&p x):=by
 rw[bY hx,List.all_append];simp
def zV{α:Type}{p:α->Bool}{xs:List α}{i:Nat}{A:Bool}(h:(A&&(xs.take i).all p)=false):(A&&(xs.take (i+1)).all p)=false:=by
 grind
def JQ{α a:Type}{f:α->a}{l:List α}{i n:Nat}{x:α}{z:a}(hx:l[i]?=some x)(hi:i<n):((l.take i).map f++List.replicate (n-i) z).set i (f x)=(l.take (i+1)).map f++List.replicate (n-(i+1)) z:=by
 let a:i<l.length:=(aci.1 hx).1;let h1:((l.take i).map f).length=i:=by simp;omega
 rw[adC _ _ (by omega),h1,adQ,bY hx];let a:n-i=(n-(i+1))+1:=by omega
 grind
def cy{α:Type}{p:α->Bool}{xs:List α}{i:Nat}{x:α}(hx:xs[i]?=some x)(e:p x=false):xs.all p=false:=by
 grind
def di{α:Type}{p:α->Bool}{xs:List α}{i:Nat}(h:(xs.take i).all p=true)(h1:xs.length<=i):xs.all p=true:=by
 grind[List.take_of_length_le]
def Ds(a b:Bool):a=b\/¬a=b:=Decidable.em _
section
variable{P:Program}{n:Nat}{V:Env}{w:World}{o:Oper}
def iY{xs:Array Operand}{ats:Array TypeId}{x y:Operand}(a b:Int)(c:o.op=.call {callee:=.builtin .min,args:=xs,argTypes:=ats})(c:xs=#[x,y])(hx:ev V x=.int .i64 a)(hy:ev V y=.int .i64 b):
 Yields P V o (.int .i64 (min a b)) w:=by
 exact U9
def gV{xs:Array Operand}{ats:Array TypeId}{x y:Operand}(a b:Int)(c:o.op=.call {callee:=.builtin .max,args:=xs,argTypes:=ats})(c:xs=#[x,y])(hx:ev V x=.int .i64 a)(hy:ev V y=.int .i64 b):
 Yields P V o (.int .i64 (max a b)) w:=by
 exact Tt
def XA{xs:Array Operand}{ats:Array TypeId}{x y z u:Operand}(a b c d:Int)(e:o.op=.call {callee:=.builtin .min,args:=xs,argTypes:=ats})(e:xs=#[x,y,z,u])(hx:ev V x=.int .i64 a)(hy:ev V y=.int .i64 b)(hz:ev V z=.int .i64 c)(e:ev V u=.int .i64 d):
 Yields P V o (.int .i64 (min (min (min a b) c) d)) w:=by
 exact U9
def XY{xs:Array Operand}{ats:Array TypeId}{x y z u:Operand}(a b c d:Int)(e:o.op=.call {callee:=.builtin .max,args:=xs,argTypes:=ats})(e:xs=#[x,y,z,u])(hx:ev V x=.int .i64 a)(hy:ev V y=.int .i64 b)(hz:ev V z=.int .i64 c)(e:ev V u=.int .i64 d):
 Yields P V o (.int .i64 (max (max (max a b) c) d)) w:=by
 exact Tt
def vX{t u:TypeId}{x y:Operand}{k':IntKind}(s:Int)(b:o.op=.binOp .shl t x y u)(hx:ev V x=.int .i64 1)(hy:ev V y=.int k' s)(a:0<=s/\s<=60):
 Yields P V o (.int .i64 (2^s.toNat)) w:=by
 refine ui .i64 k' 1 s _ _ b hx hy a.1 Z ?_;let h1:min s.toNat IntKind.i64.bits=s.toNat:=by simp[IntKind.bits];omega
 rw[h1,aes];let a:(2:Int)^s.toNat<=2^60:=by exact_mod_cast Nat.pow_le_pow_right fe (by omega)
 grind[Int.pow_nonneg,yq]
def pu(k:Nat):0<(2:Int)^k:=Int.pow_pos fe
def rZ{a b:Nat}(h:a<=b):(2:Int)^a<=2^b:=by exact_mod_cast Nat.pow_le_pow_right fe h
def Ic{x d:Int}(b:0<d):(if x.tdiv d*d>x then x.tdiv d-1 else x.tdiv d)=x/d:=by
 let h1:=aeb x d;let a:x.tmod d<d:=adv x b;let a:-d<x.tmod d:=adK x b;let a:=aec x d;let a:=adp x (by omega:d≠0);let a:=adj x b
 grind
def HJ{q d A:Int}(a:0<d)(h:-A<=q*d/\q*d<=A):-A<=q/\q<=A:=by
 let h1:q.natAbs<=(q*d).natAbs:=by
  rw[aeP];exact Nat.le_mul_of_pos_right _ (by omega)
 omega
def el{a b A B:Int}(ha:0<=a/\a<=A)(c:0<=b/\b<=B):0<=a*b/\a*b<=A*B:=
 ⟨ac9 ha.1 c.1,adu ha.2 c.2 c.1 (by omega)⟩
def rV{a b A B:Int}(ha:-A<=a/\a<=A)(c:-B<=b/\b<=B):-(A*B)<=a*b/\a*b<=A*B:=by
 let h1:a.natAbs*b.natAbs<=A.natAbs*B.natAbs:=aff (by omega) (by omega);rw[<-aeP,<-aeP] at h1
 grind[Int.mul_nonneg]
def wi{t:TypeId}{x:Operand}(a:Int)(c:o.op=.unOp .neg t x)(hx:ev V x=.int .i64 a)(b:-9223372036854775807<=a/\a<=9223372036854775807:=by omega):
 Yields P V o (.int .i64 (-a)) w:=by
 unfold Yields execOp;rw[c];let h:=yq (-a) (by omega);simp[hx,Op.unary,Op.intArith,h]
def H6{a b x y l:Int}(hx:x=a\/x=-a)(hy:y=b\/y=-b)(d:0<=x)(c:0<=y)(h:x*y<=l):-l<=a*b/\a*b<=l:=by
 let h0:=ac9 d c;rcases hx with rfl|rfl<;>rcases hy with rfl|rfl<;>(try simp only[Int.neg_mul,Int.mul_neg,Int.neg_neg] at h h0)<;>omega
def H7{a b x y l:Int}(hx:x=a\/x=-a)(hy:y=b\/y=-b)(h:l<x*y):¬(-l<=a*b/\a*b<=l):=by
 rcases hx with rfl|rfl<;>rcases hy with rfl|rfl<;>(try simp only[Int.neg_mul,Int.mul_neg,Int.neg_neg] at h)<;>omega
def dZ{α:Type}{xs:List α}{i:Nat}{x:α}(h:xs[i]?=some x):xs.drop i=x::xs.drop (i+1):=by
 obtain⟨a,rfl⟩:=aci.1 h
 simp_all
end
end Go.E
namespace Go.E
open Go.RowKit
inductive iN where
 |fin
 |st (i:Nat) (s:iN)
 |ef (i:Nat) (s:iN)
 |fk (i j:Nat) (s t:iN)
 |f3 (i j k:Nat) (s t u:iN)
 |f4 (i j k l:Nat) (s t u v:iN)
def iN.Lr:gB->iN->iN
 |[],s=>s
 |i::l,s=> .st i (iN.Lr l s)
def iN.size:iN->Nat
 | .fin=>0
 | .st _ s=>s.size+1
 | .ef _ s=>s.size+1
 | .fk _ _ s _=>s.size+1
 | .f3 _ _ _ s _ _=>s.size+1
 | .f4 _ _ _ _ s _ _ _=>s.size+1
def kK(ops:Array Oper)(E:gB):iN->Array Bool->Bool
 | .fin,listed=>(Region.ready .any ops listed).isEmpty
 | .st i s,listed=>(Region.ready .any ops listed).contains i&&Region.free .any ops listed i&&!E.contains i&&kK ops E s (listed.setIfInBounds i true)
 | .ef i s,listed=>decide (Region.ready .any ops listed=[i])&&kK ops E s (listed.setIfInBounds i true)
 | .fk i j s t,listed=>decide (Region.ready .any ops listed=[i,j])&&decide (s.size=t.size)&&kK ops E s (listed.setIfInBounds i true)&&kK ops E t (listed.setIfInBounds j true)
 | .f3 i j k s t u,listed=>decide (Region.ready .any ops listed=[i,j,k])&&decide (s.size=t.size)&&decide (s.size=u.size)&&kK ops E s (listed.setIfInBounds i true)&&kK ops E t (listed.setIfInBounds j true)&&kK ops E u (listed.setIfInBounds k true)
 | .f4 i j k l s t u v,listed=>decide (Region.ready .any ops listed=[i,j,k,l])&&decide (s.size=t.size)&&decide (s.size=u.size)&&decide (s.size=v.size)&&kK ops E s (listed.setIfInBounds i true)&&kK ops E t (listed.setIfInBounds j true)&&kK ops E u (listed.setIfInBounds k true)&&kK ops E v (listed.setIfInBounds l true)
section
variable{P:Program}{ops:Array Oper}{E:gB}
def ey(P:Program)(n:Nat)(ops:Array Oper)(E:gB)(L:en)(N:Env->World->Prop):iN->Array Bool->Env->World->Prop
 | .fin,_,V,w=>N V w
 | .st i s,listed,V,w=>∃o v,ops[i]?=some o/\cV n o.dst=true/\se P n ops (nE L i) o v V/\ey P n ops E L N s (listed.setIfInBounds i true) (put V o.dst v) w
 | .ef i s,listed,V,w=>∃o,ops[i]?=some o/\aZ P n ops [o] (λV' w'=>eI ops E (listed.setIfInBounds i true) w' L/\ey P n ops E L N s (listed.setIfInBounds i true) V' w') V w
 | .fk i j s t,listed,V,w=>(∃o,ops[i]?=some o/\aZ P n ops [o] (λV' w'=>eI ops E (listed.setIfInBounds i true) w' L/\ey P n ops E L N s (listed.setIfInBounds i true) V' w') V w)/\
  ∃o,ops[j]?=some o/\aZ P n ops [o] (λV' w'=>eI ops E (listed.setIfInBounds j true) w' L/\ey P n ops E L N t (listed.setIfInBounds j true) V' w') V w
 | .f3 i j k s t u,listed,V,w=>(∃o,ops[i]?=some o/\aZ P n ops [o] (λV' w'=>eI ops E (listed.setIfInBounds i true) w' L/\ey P n ops E L N s (listed.setIfInBounds i true) V' w') V w)/\(∃o,ops[j]?=some o/\aZ P n ops [o] (λV' w'=>eI ops E (listed.setIfInBounds j true) w' L/\ey P n ops E L N t (listed.setIfInBounds j true) V' w') V w)/\(∃o,ops[k]?=some o/\aZ P n ops [o] (λV' w'=>eI ops E (listed.setIfInBounds k true) w' L/\ey P n ops E L N u (listed.setIfInBounds k true) V' w') V w)
 | .f4 i j k l s t u v,listed,V,w=>(∃o,ops[i]?=some o/\aZ P n ops [o] (λV' w'=>eI ops E (listed.setIfInBounds i true) w' L/\ey P n ops E L N s (listed.setIfInBounds i true) V' w') V w)/\(∃o,ops[j]?=some o/\aZ P n ops [o] (λV' w'=>eI ops E (listed.setIfInBounds j true) w' L/\ey P n ops E L N t (listed.setIfInBounds j true) V' w') V w)/\(∃o,ops[k]?=some o/\aZ P n ops [o] (λV' w'=>eI ops E (listed.setIfInBounds k true) w' L/\ey P n ops E L N u (listed.setIfInBounds k true) V' w') V w)/\(∃o,ops[l]?=some o/\aZ P n ops [o] (λV' w'=>eI ops E (listed.setIfInBounds l true) w' L/\ey P n ops E L N v (listed.setIfInBounds l true) V' w') V w)
def vd{n:Nat}{L:en}{N:Env->World->Prop}{i f:Nat}{o:Oper}{s:iN}{listed:Array Bool}{V:Env}{w:World}{a:Act}(ha:tQ n V a)(ho:ops[i]?=some o)
 (ih:∀V' w' a',tQ n V' a'->eI ops E (listed.setIfInBounds i true) w' L->ey P n ops E L N s (listed.setIfInBounds i true) V' w'->mH P ops E L (λa' w'=>∃V',tQ n V' a'/\N V' w') f (listed.setIfInBounds i true) a' w')
 (hw:aZ P n ops [o] (λV' w'=>eI ops E (listed.setIfInBounds i true) w' L/\ey P n ops E L N s (listed.setIfInBounds i true) V' w') V w):
 wpOp P ops (only (λa' w'=>∃V',tQ n V' a'/\N V' w')) i (mH P ops E L (λa' w'=>∃V',tQ n V' a'/\N V' w') f (listed.setIfInBounds i true)) a w:=by
 let h1:=hw a ha (λe a' w'=>e=.normal/\∃V',tQ n V' a'/\eI ops E (listed.setIfInBounds i true) w' L/\ey P n ops E L N s (listed.setIfInBounds i true) V' w') (λV' a' w' hr hk=>⟨rfl,V',hr,hk⟩);unfold wpList at h1;unfold wpOp;simp only[ho]
 let fin:∀a' w',wpList P ops (λe a' w'=>e=.normal/\∃V',tQ n V' a'/\eI ops E (listed.setIfInBounds i true) w' L/\ey P n ops E L N s (listed.setIfInBounds i true) V' w') [] a' w'->
  mH P ops E L (λa' w'=>∃V',tQ n V' a'/\N V' w') f (listed.setIfInBounds i true) a' w':=λa' w' hh=>by
  let⟨_,V',hr,hc',hk⟩:=hh;exact ih V' w' a' hr hc' hk
 split
 ·rename_i hwant;simp only[hwant,aeG] at h1;rcases h1 with h1|⟨_,a0,w0,h1,_⟩
  case inr=>cases h1
  left;unfold Oper.wp at*
  generalize (execOp a.eval o).run P w=r at*
  cases r with
  |ok nx w'=>
   cases nx<;>simp only[Oper.upon] at h1⊢
   case value u=>exact fin _ _ h1
   case skip=>exact fin _ _ h1
   case defer d=>exact fin _ _ h1
   case enter f args=>
    refine h1.mono λe w'' he=>?_;cases e with
    |returned u=>exact fin _ _ he
    |panicked c=>exact absurd he.1 (by simp)
    |outgrown=>let⟨_,_,h,_⟩:=he;cases h
   case row row args=>exact h1.mono λu w'' he=>fin _ _ he
  |halt x w'=>cases x<;>simp only[Oper.upon] at h1<;>first|exact h1.elim|exact absurd h1.1 (by simp)
 ·rename_i hwant;simp only[hwant] at h1;exact fin _ _ h1
def lN{n:Nat}{L:en}{N:Env->World->Prop}(g:Region.noSelect ops=true):∀(s:iN) (listed:Array Bool) (V:Env) (w:World) (a:Act),tQ n V a->oF ops listed->eI ops E listed w L->
 kK ops E s listed=true->ey P n ops E L N s listed V w->mH P ops E L (λK J=>∃H,tQ n H K/\N H J) s.size listed a w
 | .fin,listed,V,w,a,ha,_,hc,A,h=>⟨hc,by simpa [kK] using A,V,ha,h⟩
 | .st i s,listed,V,w,a,ha,f,hc,A,h=>by
  simp only[kK,ach,adt] at A;obtain⟨o,v,T,y,q,hw⟩:=h;have r:i∈Region.ready .any ops listed:=by simp_all
  have e:eI ops E (listed.setIfInBounds i true) w L:=by
   have d:∀x,rel ops E x listed=true->rel ops E x (listed.setIfInBounds i true)=true:=λx hx=>by
    unfold rel at*;obtain⟨s,b,h⟩:=adf.1 hx;simp only[ach] at h;exact adf.2 ⟨s,b,by simp only[ach];grind[getD_set_true]⟩
   have b:∀M:en,eI ops E listed w M->eI ops E (listed.setIfInBounds i true) w M:=by
    intro M
    induction M with
    |nil=>intro _;trivial
    |cons x M c=>
     obtain⟨b,p,v⟩:=x;intro hM;exact⟨hM.1.imp (d _) id,c hM.2⟩
   simp_all
  exact ud A.1.2 T (Region.noSelect_spec g) s.size listed a w f (Region.free_spec T A.1.1.2) r (q.at ha) (n9 (AF f r) hc) hc
   (lN g s _ _ w _ (ha.put y v) (f.set r) e A.2 hw)
 | .ef i s,listed,V,w,a,ha,f,hc,A,h=>by
  simp only[kK,ach,acr] at A;obtain⟨o,T,hw⟩:=h;refine⟨hc,λh=>dV,λj b=>?_⟩;have c:=b;rw[A.1] at b;have b:j=i:=by simp_all
  subst b;exact vd ha T (λH J K r e d=>lN g s _ H J K r (f.set c) e A.2 d) hw
 | .fk i j s t,listed,V,w,a,ha,f,hc,A,h=>by
  simp only[kK,ach,acr] at A;obtain⟨⟨o,T,hw⟩,Qz,B,G⟩:=h;obtain⟨⟨⟨r,C⟩,z⟩,F⟩:=A;refine⟨hc,λh=>dV,λk d=>?_⟩;have c:=d;rw[r] at d;rcases acw.1 d with rfl|d
  ·exact Nr
  ·have D:k=j:=by simp_all
   subst D;exact Oy
 | .f3 i j m s t u,listed,V,w,a,ha,f,hc,A,h=>by
  simp only[kK,ach,acr] at A;obtain⟨⟨o,T,hw⟩,⟨Qz,B,G⟩,b,q,y⟩:=h;obtain⟨⟨⟨⟨⟨r,C⟩,I⟩,z⟩,F⟩,Oz⟩:=A;refine⟨hc,λh=>dV,λk d=>?_⟩;have c:=d;rw[r] at d;rcases acw.1 d with rfl|d
  ·exact Nr
  ·rcases acw.1 d with rfl|d
   ·exact Oy
   ·have D:k=m:=by simp_all
    subst D;exact UL
 | .f4 i j m l s t u v,listed,V,w,a,ha,f,hc,A,h=>by
  simp only[kK,ach,acr] at A;obtain⟨⟨o,T,hw⟩,⟨Qz,B,G⟩,⟨b,q,y⟩,b,b,S⟩:=h;obtain⟨⟨⟨⟨⟨⟨⟨r,C⟩,I⟩,Qz⟩,z⟩,F⟩,Oz⟩,R⟩:=A;refine⟨hc,λh=>dV,λk d=>?_⟩;have c:=d;rw[r] at d;rcases acw.1 d with rfl|d
  ·exact Nr
  ·rcases acw.1 d with rfl|d
   ·exact Oy
   ·rcases acw.1 d with rfl|d
    ·exact UL
    ·have D:k=l:=by simpa using d
     subst D;exact vd ha b (λH J K r e d=>Qz▸lN g v _ H J K r (f.set c) e R d) S
def VL{n:Nat}{K:Exit->Env->World->Prop}{V:Env}{w:World}{b:Nat}(E:gB)(L:en)(s:iN)(k:P.follows .mixedOrders=true)
 (f:(Region.noSelect ops&&decide (s.size=ops.size)&&kK ops E s (Array.replicate ops.size false))=true) (g:eI ops E (Array.replicate ops.size false) w L)
 (h:ey P n ops E L (K .normal) s (Array.replicate ops.size false) V {w with drawn:=w.drawn+1}):bu P n (.region b ops true) K V w:=by
 intro a ha;simp only[ach,acr] at f;let d:oF ops (Array.replicate ops.size false):=λj b _ b=>by rw[wv] at b;cases b
 let c:eI ops E (Array.replicate ops.size false) {w with drawn:=w.drawn+1} L:=by
  clear f h
  induction L with
  |nil=>trivial
  |cons x L b=>let⟨i,p,v⟩:=x;exact⟨g.1,b g.2⟩
 let h1:=lN f.1.1 s _ V _ a ha d c f.2 h;rw[f.1.2] at h1;refine wp_mono (wp_region_any k (tp _ _ _ _ h1)) λe b b f=>?_;obtain⟨rfl,d,b,c⟩:=f;exact⟨d,b,c⟩
variable{n:Nat}{L:en}{N:Env->World->Prop}{V:Env}{w:World}{s t:iN}{listed:Array Bool}
def qN(h:N V w):ey P n ops E L N .fin listed V w:=h
def qO{i:Nat}{o:Oper}(c:ops[i]?=some o)(h:aZ P n ops [o] (λb a=>eI ops E (listed.setIfInBounds i true) a L/\ey P n ops E L N s (listed.setIfInBounds i true) b a) V w):
 ey P n ops E L N (.ef i s) listed V w:=⟨o,c,h⟩
def qF{i j:Nat}(h1:ey P n ops E L N (.ef i s) listed V w)(a:ey P n ops E L N (.ef j t) listed V w):ey P n ops E L N (.fk i j s t) listed V w:=⟨h1,a⟩
def qF3{i j k:Nat}{u:iN}(h1:ey P n ops E L N (.ef i s) listed V w)(b:ey P n ops E L N (.ef j t) listed V w)(a:ey P n ops E L N (.ef k u) listed V w):ey P n ops E L N (.f3 i j k s t u) listed V w:=⟨h1,b,a⟩
def qP{s:iN}{listed:Array Bool}(a:gB)(d:(a.all λi=>Nat.blt i ops.size)=true)(c:iH P n ops (Jg ops a) V=true)
 (h:ey P n ops E L N s (rU a listed) (mW P n ops (Jg ops a) V) w):ey P n ops E L N (iN.Lr a s) listed V w:=by
 induction a generalizing V listed with
 |nil=>exact h
 |cons i a b=>
  simp only[aeW,ach] at d;simp only[Jg,acC,iH,ach] at c;let a:i<ops.size:=by simp_all
  exact Wm
def uJ{s:iN}{listed:Array Bool}(d:Nat)(t b:Bool)(c:t=b)(h:ey P n ops E L N s listed (lU V d (.bool b)) w)(a:V d=.bool t:=by kernel_rfl):ey P n ops E L N s listed V w:=by
 rwa [tV (c▸a)] at h
theorem qU{s:iN}{listed:Array Bool}(a:gB)(h:ey P n ops E L N s (rU a listed) (mW P n ops (Jg ops a) V) w)(c:(a.all λi=>Nat.blt i ops.size)=true:=by rfl)(b:iH P n ops (Jg ops a) V=true:=by kernel_rfl):ey P n ops E L N (iN.Lr a s) listed V w:=qP a c b h
end
end Go.E
namespace Go.E
set_option linter.unusedVariables false
def YC(O:cj)(i:Nat):Nat:=match O[i]? with
 |some [(b,.cells _ _ _)]=>b
 |_=>0
def Ec(O:cj)(i:Nat):nO:=match O[i]? with
 |some [(_,.cells c _ _)]=>c
 |_=>#[]
def QY(O:cj)(i:Nat):Bool:=match O[i]? with
 |some [(_,.cells _ _ _)]=>true
 |_=>false
theorem zm{O:cj}{i:Nat}(h:QY O i=true):∃E f,O[i]?=some [(YC O i,.cells (Ec O i) E f)]:=by
 grind[QY,YC,Ec]
def fB(O:cj)(i j off:Nat):Nat->en
 |0=>[]
 |k+1=>(i,⟨YC O j,off,none⟩,(Ec O j).getD off undef)::fB O i j (off+1) k
def fP(i b off:Nat):Nat->fa->en
 |_,[]=>[]
 |q,v::l=>(i,⟨b,off+q,none⟩,v)::fP i b off (q+1) l
inductive FG(O:List af):en->Prop
 |fn:FG O []
 |b (i j off k:Nat) {L:en} (t:FG O L) (h:(QY O j&&Nat.ble (off+k) (Ec O j).size)=true):FG O (fB O i j off k++L)
 |q (i k:Nat) {b off:Nat} {l:List Value} {v:Value} {L:en} (hp:na O b off l) (t:FG O L) (h:l[k]?=some v):FG O ((i,⟨b,off+k,none⟩,v)::L)
 |p (i:Nat) {b off:Nat} {l:List Value} {L:en} (hp:na O b off l) (t:FG O L):FG O (fP i b off 0 l++L)
def fb{O:cj}{L:en}(i j off k:Nat)(t:FG O L)(h:(QY O j&&Nat.ble (off+k) (Ec O j).size)=true:=by kernel_rfl):FG O (fB O i j off k++L):=.b i j off k t h
def fq{O:cj}{L:en}{b off:Nat}{l:fa}{v:Value}(i k:Nat)(hp:na O b off l)(t:FG O L)(h:l[k]?=some v:=by rfl):FG O ((i,⟨b,off+k,none⟩,v)::L):=.q i k hp t h
def fp{O:cj}{L:en}{b off:Nat}{l:fa}(i:Nat)(hp:na O b off l)(t:FG O L):FG O (fP i b off 0 l++L):=.p i hp t
def fn{O:cj}:FG O []:=.fn
section
variable{P:Program}{n:Nat}{V:Env}{W w:World}{O:cj}{ops:Array Oper}{E:gB}{listed:Array Bool}{N:Env->World->Prop}{L:en}{K:Exit->Env->World->Prop}
def Ej{a:en}(h:eI ops E listed w L)(b:eI ops E listed w a):eI ops E listed w (L++a):=by
 induction L with
 |nil=>exact b
 |cons x L a=>let⟨i,p,v⟩:=x;exact⟨h.1,a h.2⟩
def JZ(c:X W w O){i j:Nat}:∀{k off:Nat},(QY O j&&Nat.ble (off+k) (Ec O j).size)=true->eI ops E listed w (fB O i j off k)
 |0,_,_=>trivial
 |k+1,off,h=>by
  simp only[ach] at h;let⟨F,f,b⟩:=zm h.1;let a:off+(k+1)<=(Ec O j).size:=adl h.2;refine⟨.inr (c.cell j b ?_),JZ c ?_⟩
  ·rw[ad7,aeJ (by omega)];rfl
  grind
def Jw(c:X W w O){i b off:Nat}{l:fa}(hp:na O b off l):∀{q:Nat} {a:fa},l.drop q=a->eI ops E listed w (fP i b off q a)
 |_,[],_=>trivial
 |q,v::a,h=>by
  let a:l[q]?=some v:=by rw[<-List.head?_drop,h];rfl
  refine⟨.inr (hp.cell c a),Jw c hp ?_⟩;rw[<-List.drop_drop,h];rfl
def FG.eI(h:FG O L)(c:X W w O):eI ops E listed w L:=by
 induction h with
 |fn=>trivial
 |b i j off k _ h a=>exact Ej (JZ c h) a
 |q i k hp _ h a=>exact⟨.inr (hp.cell c h),a⟩
 |p i hp _ a=>exact Ej (Jw c hp Z) a
def Nu(E:gB)(l:gB):mv:=l.map λi=>(!E.contains i,[i])
def bJ{d:Nat}(c:X W w O)(E:gB)(e:FG O L)(l:gB)(h:∀a,X W a O->fO P n ops E L (K .normal) (ao (Nu E l)) (Array.replicate ops.size false) V a)(b:P.follows .mixedOrders=true:=by rfl)
 (a:(Region.noSelect ops&&decide ((ao (Nu E l)).length=ops.size)&&rr ops E (ao (Nu E l)) (Array.replicate ops.size false))=true:=by kernel_rfl):bu P n (.region d ops true) K V w:=
 kI E L (Nu E l) b a (e.eI c) (h _ c.drew)
def kA{d:Nat}(c:X W w O)(E:gB)(e:FG O L)(s:iN)(h:∀a,X W a O->ey P n ops E L (K .normal) s (Array.replicate ops.size false) V a)(b:P.follows .mixedOrders=true:=by rfl)
 (a:(Region.noSelect ops&&decide (s.size=ops.size)&&kK ops E s (Array.replicate ops.size false))=true:=by kernel_rfl):bu P n (.region d ops true) K V w:=
 VL E L s b a (e.eI c) (h _ c.drew)
def wV(k:Nat){l:gB}(h:fO P n ops E L N (ao (Nu E (l.drop k))) (rU (l.take k) listed) (mW P n ops (Jg ops (l.take k)) V) w)(b:((l.take k).all λi=>!E.contains i&&Nat.blt i ops.size)=true:=by rfl)
 (c:iH P n ops (Jg ops (l.take k)) V=true:=by kernel_rfl):fO P n ops E L N (ao (Nu E l)) listed V w:=by
 have he:ao (Nu E l)=ao ((true,l.take k)::Nu E (l.drop k)):=by
  have h1:∀m:gB,(m.all λi=>!E.contains i&&Nat.blt i ops.size)=true->ao (Nu E m)=m.map λi=>(true,i):=λm=>by
   induction m with
   |nil=>intro _;rfl
   |cons a m b=>
    intro h;simp only[aeW,ach] at h;have:=b dV;simp only[Nu,ao,acC,ac8,h.1.1,adA,acP,acN] at this⊢;rw[this]
  grind[ao,Nu,List.take_append_drop]
 rw[he];exact wU (l.take k) h dV c
def Mv(L:en)(k:Nat):Nat:=match L[k]? with|some x=>x.1|none=>0
def yL(L:en)(k:Nat):cf:=match L[k]? with|some x=>some x.2.1|none=>none
def Fb(L:en)(k:Nat):Value:=match L[k]? with|some x=>x.2.2|none=>undef
theorem Pw{k i:Nat}{a:Addr}(c:nE L i w)(hi:Mv L k=i)(ha:yL L k=some a):w.cell? a=some (Fb L k):=by
 unfold yL at ha;unfold Mv at hi;cases h:L[k]? with
 |none=>rw[h] at ha;cases ha
 |some x=>
  let⟨b,p,v⟩:=x;rw[h] at ha hi;cases ha;cases hi;let:=c k _ _ h;unfold Fb;rw[h];exact this
def uD{i k:Nat}{o:Oper}{t:TypeId}{x:Operand}(a:o.op=.load t x)(hc:(c8 P (isAgg t),Mv L k,Value.pointer (yL L k))=(some false,i,ev V x))(a:(yL L k).isSome=true)(a:nE L i w):Yields P V o (Fb L k) w:=by
 grind[Option.isSome_iff_exists,Prod.mk.injEq,wa,dB,Pw]
def wL(k:Nat){s:mv}{i:Nat}{o:Oper}{t:TypeId}{x:Operand}(h:fO P n ops E L N (ao s) (listed.setIfInBounds i true) (put V o.dst (Fb L k)) w)(hi:ops[i]?=some o:=by rfl)(d:o.op=.load t x:=by rfl)(a:cV n o.dst=true:=by rfl)
 (hg:fg ops n V o.guard=some true:=by kernel_rfl) (c:(yL L k).isSome=true:=by kernel_rfl) (hc:(c8 P (isAgg t),Mv L k,Value.pointer (yL L k))=(some false,i,ev V x):=by kernel_rfl):fO P n ops E L N (ao ((true,[i])::s)) listed V w:=by
 refine⟨o,_,hi,a,?_,h⟩;cases hq:o.guard with
 |none=>exact .inl ⟨hq,λw a=>uD d hc c a⟩
 |some g=>let⟨j,b⟩:=g;rw[hq] at hg;exact .inr (.inl ⟨j,b,hq,iq hg,λw a=>uD d hc c a⟩)
def qL(k:Nat){s:iN}{i:Nat}{o:Oper}{t:TypeId}{x:Operand}(h:ey P n ops E L N s (listed.setIfInBounds i true) (put V o.dst (Fb L k)) w)(hi:ops[i]?=some o:=by rfl)(d:o.op=.load t x:=by rfl)(a:cV n o.dst=true:=by rfl)
 (hg:fg ops n V o.guard=some true:=by kernel_rfl) (c:(yL L k).isSome=true:=by kernel_rfl) (hc:(c8 P (isAgg t),Mv L k,Value.pointer (yL L k))=(some false,i,ev V x):=by kernel_rfl):ey P n ops E L N (.st i s) listed V w:=by
 refine⟨o,_,hi,a,?_,h⟩;cases hq:o.guard with
 |none=>exact .inl ⟨hq,λw a=>uD d hc c a⟩
 |some g=>let⟨j,b⟩:=g;rw[hq] at hg;exact .inr (.inl ⟨j,b,hq,iq hg,λw a=>uD d hc c a⟩)
def qE(L:en)(k m:Nat):fa:=((L.drop k).take m).map λx=>x.2.2
def BY(L:en)(i k:Nat)(v:Value):Nat->gB×fa
 |0=>([],[])
 |m+1=>match BY L i k v m with
  |(a,b)=>(Mv L (k+m)::a,Value.pointer (yL L (k+m))::b)
def BK(i:Nat)(v:Value):Nat->gB×fa
 |0=>([],[])
 |m+1=>match BK i v m with
  |(a,b)=>(i::a,(match v with| .pointer (some ⟨c,o,none⟩)=> .pointer (some ⟨c,o+m,none⟩)|_=>undef)::b)
def X7:Value->Bool
 | .pointer (some ⟨_,_,none⟩)=>true
 |_=>false
def z8{i k:Nat}{c off:Nat}(e:nE L i w):∀m:Nat,BY L i k (.pointer (some ⟨c,off,none⟩)) m=BK i (.pointer (some ⟨c,off,none⟩)) m->∀j<m,w.cell? ⟨c,off+j,none⟩=some (Fb L (k+j))/\(L[k+j]?).isSome=true
 |0,_,j,a=>by omega
 |m+1,h,j,a=>by
  simp only[BY,BK,aeF,aeI] at h;let⟨⟨h1,d⟩,a,b⟩:=h;by_cases a:j=m
  ·subst a;let ha:yL L (k+j)=some ⟨c,off+j,none⟩:=by simp_all
   refine⟨Pw e h1 ha,?_⟩;unfold yL at ha;cases hq:L[k+j]? with
   |none=>rw[hq] at ha;cases ha
   |some _=>rfl
  ·exact z8 e m (Prod.ext d b) j (by omega)
def rS{i k m:Nat}{o:Oper}{t:TypeId}{x:Operand}(g:o.op=.load t x)(hx:X7 (ev V x)=true)(hc:(c8 P (isAgg t),c8 P (sizeOf t),BY L i k (ev V x) m)=(some true,some m,BK i (ev V x) m))(b:nE L i w):Yields P V o (.agg (qE L k m).toArray) w:=by
 simp only[aeF] at hc;let⟨ha,f,hc⟩:=hc;cases hv:ev V x with
 |pointer q=>
  cases q with
  |none=>rw[hv] at hx;cases hx
  |some q=>
   let⟨c,off,r⟩:=q;cases r with
   |some _=>rw[hv] at hx;cases hx
   |none=>
    rw[hv] at hc;let a:=z8 b m hc
    let d:∀j<m,(qE L k m)[j]?=some (Fb L (k+j)):=λj e=>by
     grind[qE,Fb]
    let hlen:(qE L k m).length=m:=by
     let a:(qE L k m).length<=m:=by grind[qE]
     rcases Nat.lt_or_ge (qE L k m).length m with b|a
     ·let:=d _ b;rw[acY (acS _)] at this;cases this
     ·omega
    let a:∀j v,(qE L k m)[j]?=some v->w.cell? ((⟨c,off,none⟩:Addr).add j)=some v:=λj v e=>by
     grind[List.getElem?_eq_some_iff,fD]
    let b:=run_loadCells_list (P:=P) w ⟨c,off,none⟩ (qE L k m) a;rw[hlen] at b;unfold Yields execOp;rw[g];simp[Instr.loadAt,hv,Instr.sureAddr,loadVar,dB P _ _ ha w,dB P _ _ f w,b]
 |_=>rw[hv] at hx;cases hx
def wG(k m:Nat){s:mv}{i:Nat}{o:Oper}{t:TypeId}{x:Operand}(h:fO P n ops E L N (ao s) (listed.setIfInBounds i true) (put V o.dst (.agg (qE L k m).toArray)) w)(hi:ops[i]?=some o:=by rfl)(c:o.op=.load t x:=by rfl)(a:cV n o.dst=true:=by rfl)
 (hg:fg ops n V o.guard=some true:=by kernel_rfl) (hx:X7 (ev V x)=true:=by kernel_rfl) (hc:(c8 P (isAgg t),c8 P (sizeOf t),BY L i k (ev V x) m)=(some true,some m,BK i (ev V x) m):=by kernel_rfl):fO P n ops E L N (ao ((true,[i])::s)) listed V w:=by
 refine⟨o,_,hi,a,?_,h⟩;cases hq:o.guard with
 |none=>exact .inl ⟨hq,λw a=>rS c hx hc a⟩
 |some g=>let⟨j,b⟩:=g;rw[hq] at hg;exact .inr (.inl ⟨j,b,hq,iq hg,λw a=>rS c hx hc a⟩)
def qG(k m:Nat){s:iN}{i:Nat}{o:Oper}{t:TypeId}{x:Operand}(h:ey P n ops E L N s (listed.setIfInBounds i true) (put V o.dst (.agg (qE L k m).toArray)) w)(hi:ops[i]?=some o:=by rfl)(c:o.op=.load t x:=by rfl)(a:cV n o.dst=true:=by rfl)
 (hg:fg ops n V o.guard=some true:=by kernel_rfl) (hx:X7 (ev V x)=true:=by kernel_rfl) (hc:(c8 P (isAgg t),c8 P (sizeOf t),BY L i k (ev V x) m)=(some true,some m,BK i (ev V x) m):=by kernel_rfl):ey P n ops E L N (.st i s) listed V w:=by
 refine⟨o,_,hi,a,?_,h⟩;cases hq:o.guard with
 |none=>exact .inl ⟨hq,λw a=>rS c hx hc a⟩
 |some g=>let⟨j,b⟩:=g;rw[hq] at hg;exact .inr (.inl ⟨j,b,hq,iq hg,λw a=>rS c hx hc a⟩)
def slK:Value->Option (cf×Nat)
 | .slice a n _=>some (a,n)
 |_=>none
def TC(P:Program)(t:TypeId)(sz:Nat):Bool:=match c8 P (underlying t) with
 |some (.slice E)=>(match c8 P (sizeOf E) with|some k=>Nat.beq k sz|none=>false)
 |_=>false
def Ac{t:TypeId}{sz:Nat}(h:TC P t sz=true):∃E,(∀w,(underlying t).run P w=.ok (.slice E) w)/\∀w,(sizeOf E).run P w=.ok sz w:=by
 unfold TC at h;split at h
 ·rename_i E e;split at h
  ·rename_i k e2;have:=ae2 h;subst this;exact⟨E,dB P _ _ e,dB P _ _ e2⟩
  ·cases h
 ·cases h
def CQ{t:TypeId}{x y:Operand}{o:Oper}{a:cf}{i:Int}{len sz b off:Nat}(f:nJ a i len sz b off)(e:o.op=.indexAddr t x y)(c:TC P t sz=true)(hx:slK (ev V x)=some (a,len))(hy:ev V y=.int .i64 i):Yields P V o (.pointer (some ⟨b,off,none⟩)) w:=by
 let⟨E,h1,d⟩:=Ac c;cases hv:ev V x with
 |slice c c c=>rw[hv] at hx;simp only[slK,adh,aeF] at hx;obtain⟨rfl,rfl⟩:=hx;exact rf e h1 d hv hy f
 |_=>rw[hv] at hx;cases hx
def wI{s:mv}{j:Nat}{t:TypeId}{x y:Operand}{o:Oper}{a:cf}{i:Int}{len sz b off:Nat}(f:nJ a i len sz b off)(h:fO P n ops E L N (ao s) (listed.setIfInBounds j true) (put V o.dst (.pointer (some ⟨b,off,none⟩))) w)(hi:ops[j]?=some o:=by rfl)(e:o.op=.indexAddr t x y:=by rfl)(d:cV n o.dst=true:=by rfl)
 (hg:fg ops n V o.guard=some true:=by kernel_rfl) (c:TC P t sz=true:=by kernel_rfl) (hx:slK (ev V x)=some (a,len):=by kernel_rfl) (hy:ev V y=.int .i64 i:=by kernel_rfl):fO P n ops E L N (ao ((true,[j])::s)) listed V w:=by
 refine⟨o,_,hi,d,?_,h⟩;cases hq':o.guard with
 |none=>exact .inl ⟨hq',λw _=>CQ f e c hx hy⟩
 |some g=>let⟨j,b⟩:=g;rw[hq'] at hg;exact .inr (.inl ⟨j,b,hq',iq hg,λw _=>CQ f e c hx hy⟩)
def qI{s:iN}{j:Nat}{t:TypeId}{x y:Operand}{o:Oper}{a:cf}{i:Int}{len sz b off:Nat}(f:nJ a i len sz b off)(h:ey P n ops E L N s (listed.setIfInBounds j true) (put V o.dst (.pointer (some ⟨b,off,none⟩))) w)(hi:ops[j]?=some o:=by rfl)(e:o.op=.indexAddr t x y:=by rfl)(d:cV n o.dst=true:=by rfl)
 (hg:fg ops n V o.guard=some true:=by kernel_rfl) (c:TC P t sz=true:=by kernel_rfl) (hx:slK (ev V x)=some (a,len):=by kernel_rfl) (hy:ev V y=.int .i64 i:=by kernel_rfl):ey P n ops E L N (.st j s) listed V w:=by
 refine⟨o,_,hi,d,?_,h⟩;cases hq':o.guard with
 |none=>exact .inl ⟨hq',λw _=>CQ f e c hx hy⟩
 |some g=>let⟨j,b⟩:=g;rw[hq'] at hg;exact .inr (.inl ⟨j,b,hq',iq hg,λw _=>CQ f e c hx hy⟩)
def hz(ops:Array Oper)(E:gB)(listed:Array Bool)(O:cj):en->Nat->Nat->gB->List ((Bool×Addr×Option Value)×(Bool×Addr×Option Value))
 |[],_,_,_=>[]
 |(i,p,v)::L,last,cur,hs=>bif rel ops E i listed then hz ops E listed O L last cur hs
  else match (bif Nat.beq (i+1) last then(cur,hs) else match hs with|h::hs=>(h,hs)|[]=>(0,[])) with
   |(c,hs)=>((true,p,some v),(QY O c,⟨YC O c,p.off,none⟩,(Ec O c)[p.off]?))::hz ops E listed O L (i+1) c hs
def C4(g:X W w O):∀(L:en) (last cur:Nat) (a:gB),(hz ops E listed O L last cur a).map Prod.fst=(hz ops E listed O L last cur a).map Prod.snd->eI ops E listed w L
 |[],_,_,_,_=>trivial
 |(i,p,v)::L,last,cur,a,h=>by
  unfold hz at h;cases hr:rel ops E i listed with
  |true=>rw[hr,afi] at h;exact⟨.inl hr,C4 g L _ _ _ h⟩
  |false=>
   rw[hr,cond_false] at h
   generalize (bif Nat.beq (i+1) last then(cur,a) else match a with|h::a=>(h,a)|[]=>(0,[]))=q at h
   let⟨c,a⟩:=q;simp only[acC,aeI,aeF] at h;let⟨⟨h1,b,d⟩,e⟩:=h;let⟨F,f,a⟩:=zm h1.symm;exact⟨.inr (by rw[b];exact g.cell _ a d.symm),C4 g L _ _ _ e⟩
def nA{Xz:Env->World->Prop}{c:Array Bool}{a:Array Oper}(h:Xz V w)(hh:eI ops E c w L:=by exact dA):aZ P n a [] (λb a=>eI ops E c a L/\Xz b a) V w:=er ⟨hh,h⟩
def nZ{Xz:Env->World->Prop}{c:Array Bool}{a:Array Oper}(e:X W w O)(d:gB)(h:Xz V w)(hh:(hz ops E c O L 0 0 d).map Prod.fst=(hz ops E c O L 0 0 d).map Prod.snd:=by kernel_rfl):aZ P n a [] (λb a=>eI ops E c a L/\Xz b a) V w:=er ⟨C4 e L 0 0 d hh,h⟩
end
end Go.E
set_option linter.all false
namespace Go.E
set_option linter.unusedVariables false
structure LI where
 sl:List (Nat×Value)
 O:cj
 m:Nat
 fs:Prop
def LI.P(W w:World):LI->Prop
 |⟨_,O,_,fs⟩=>X W w O/\fs
def keep(V:Env)(fr:gB):List (Nat×Value):=fr.map λi=>(i,V i)
def fcA:Value->Value
 | .bool b=> .bool b
 | .int k n=> .int k n
 | .float k n=> .float k n
 | .complex k a b=> .complex k a b
 | .string s=> .string s
 | .pointer a=> .pointer a
 | .slice a n c=> .slice a n c
 | .map r=> .map r
 | .chan r=> .chan r
 | .func f a c=> .func f a c
 | .nilFunc=> .nilFunc
 | .iface t v=> .iface t v
 | .nilIface=> .nilIface
 | .agg c=> .agg c
 | .tuple v=> .tuple v
def fcB:Value->Value
 | .bool b=> .bool b
 | .int k n=> .int k n
 | .float k n=> .float k n
 | .complex k a b=> .complex k a b
 | .string s=> .string s
 | .pointer a=> .pointer a
 | .slice a n c=> .slice a n c
 | .map r=> .map r
 | .chan r=> .chan r
 | .func f a c=> .func f a c
 | .nilFunc=> .nilFunc
 | .iface t v=> .iface t v
 | .nilIface=> .nilIface
 | .agg c=> .agg c
 | .tuple v=> .tuple v
def WZ(v:Value):fcA v=v:=by cases v<;>rfl
def XQ(v:Value):fcB v=v:=by cases v<;>rfl
def Yw(V:Env):gB->fa
 |[]=>[]
 |i::l=>fcA (V i)::Yw V l
def Ys(V:Env):gB->fa
 |[]=>[]
 |i::l=>fcB (V i)::Ys V l
def qA(V':Env)(sl:List (Nat×Value))(V:Env)(fr:gB):Prop:=kg V' sl/\Yw V' fr=Ys V fr
inductive Tl:Nat->List af->List af->Prop
 |z {R}:Tl 0 R R
 |s {k x l R} (h:Tl k l R):Tl (k+1) (x::l) R
section
variable{P:Program}{n:Nat}{V:Env}{W w:World}{O:cj}{ops:Array Oper}{rest:List Oper}{N:Env->World->Prop}{o:Oper}{K:Exit->Env->World->Prop}{x y:Code}{c:Operand}
def Yr{p:Prop}(t:Bool)(e:p↔t=true)(h1:p->bu P n x K V w)(a:¬p->bu P n y K V w)(hc:ev V c=.bool t):bu P n (.cond c x y) K V w:=
 Z4 hc (λh=>h1 (e.2 h)) (λh=>a (λhp=>by rw[e.1 hp] at h;cases h))
def Yx{p:Prop}{d:Nat}(t:Bool)(e:p↔t=true)(h1:p->aZ P n ops rest N (lU V d (.bool true)) w)(b:¬p->aZ P n ops rest N (lU V d (.bool false)) w)(a:V d=.bool t):aZ P n ops rest N V w:=by
 cases t with
 |true=>exact ea d true true Z (h1 (e.2 Z)) a
 |false=>exact ea d false false Z (b (λh=>by let:=e.1 h;cases this)) a
def Mh{p:Prop}{t:Bool}(e:p↔t=true):¬p↔(!t)=true:=by simp_all
def SH{a b:Int}:a=b↔(a==b)=true:=by simp
def R6{t:Bool}:t=true↔t=true:=Iff.rfl
def Tf{p:Prop}[Decidable p]:p↔decide p=true:=by simp
def cD(p:Prop)[Decidable p](h1:p->bu P n x K V w)(a:¬p->bu P n y K V w)(hc:ev V c=.bool (decide p):=by kernel_rfl):bu P n (.cond c x y) K V w:=Yr _ Tf h1 a hc
def sD(d:Nat)(p:Prop)[Decidable p](h1:p->aZ P n ops rest N (lU V d (.bool true)) w)(b:¬p->aZ P n ops rest N (lU V d (.bool false)) w)(a:V d=.bool (decide p):=by kernel_rfl):aZ P n ops rest N V w:=Yx _ Tf h1 b a
def SU(p:Prop)[Decidable p](h1:p->bu P n y K V w)(a:¬p->bu P n x K V w)(hc:ev V c=.bool (!(decide p)):=by kernel_rfl):bu P n (.cond c x y) K V w:=Yr _ (Mh Tf) a (λh=>Ba) hc
def sDn(d:Nat)(p:Prop)[Decidable p](h1:p->aZ P n ops rest N (lU V d (.bool false)) w)(b:¬p->aZ P n ops rest N (lU V d (.bool true)) w)(a:V d=.bool (!(decide p)):=by kernel_rfl):aZ P n ops rest N V w:=Yx _ (Mh Tf) b (λh=>Ba) a
def cE(a b:Int)(h1:a=b->bu P n x K V w)(d:¬(a=b)->bu P n y K V w)(hc:ev V c=.bool (a==b):=by kernel_rfl):bu P n (.cond c x y) K V w:=Yr _ SH h1 d hc
def sE(d:Nat)(a b:Int)(h1:a=b->aZ P n ops rest N (lU V d (.bool true)) w)(e:¬(a=b)->aZ P n ops rest N (lU V d (.bool false)) w)(c:V d=.bool (a==b):=by kernel_rfl):aZ P n ops rest N V w:=Yx _ SH h1 e c
def cEn(a b:Int)(h1:a=b->bu P n y K V w)(d:¬(a=b)->bu P n x K V w)(hc:ev V c=.bool (!(a==b)):=by kernel_rfl):bu P n (.cond c x y) K V w:=Yr _ (Mh SH) d (λh=>Ba) hc
def YB(d:Nat)(a b:Int)(h1:a=b->aZ P n ops rest N (lU V d (.bool false)) w)(e:¬(a=b)->aZ P n ops rest N (lU V d (.bool true)) w)(c:V d=.bool (!(a==b)):=by kernel_rfl):aZ P n ops rest N V w:=Yx _ (Mh SH) e (λh=>Ba) c
def cN(a b:Int)(h1:a=b->bu P n y K V w)(d:¬(a=b)->bu P n x K V w)(hc:ev V c=.bool (a !=b):=by kernel_rfl):bu P n (.cond c x y) K V w:=cEn a b h1 d hc
def sN(d:Nat)(a b:Int)(h1:a=b->aZ P n ops rest N (lU V d (.bool false)) w)(e:¬(a=b)->aZ P n ops rest N (lU V d (.bool true)) w)(c:V d=.bool (a !=b):=by kernel_rfl):aZ P n ops rest N V w:=YB d a b h1 e c
def cB(t:Bool)(h1:t=true->bu P n x K V w)(a:¬(t=true)->bu P n y K V w)(hc:ev V c=.bool (t):=by kernel_rfl):bu P n (.cond c x y) K V w:=Yr _ R6 h1 a hc
def sB(d:Nat)(t:Bool)(h1:t=true->aZ P n ops rest N (lU V d (.bool true)) w)(b:¬(t=true)->aZ P n ops rest N (lU V d (.bool false)) w)(a:V d=.bool (t):=by kernel_rfl):aZ P n ops rest N V w:=Yx _ R6 h1 b a
def UX(t:Bool)(h1:t=true->bu P n y K V w)(a:¬(t=true)->bu P n x K V w)(hc:ev V c=.bool (!(t)):=by kernel_rfl):bu P n (.cond c x y) K V w:=Yr _ (Mh R6) a (λh=>Ba) hc
def sBn(d:Nat)(t:Bool)(h1:t=true->aZ P n ops rest N (lU V d (.bool false)) w)(b:¬(t=true)->aZ P n ops rest N (lU V d (.bool true)) w)(a:V d=.bool (!(t)):=by kernel_rfl):aZ P n ops rest N V w:=Yx _ (Mh R6) b (λh=>Ba) a
def Gi:Ending->(Value->Prop)->Prop
 | .returned v,k=>k v
 |_,_=>False
def Gi.ex{e:Ending}{k:Value->Prop}(h:Gi e k):∃v,e=.returned v/\k v:=by
 cases e with
 |returned v=>exact⟨v,rfl,h⟩
 |panicked c=>exact h.elim
 |outgrown=>exact h.elim
abbrev Ro(P:Program)(f:FuncId)(args:nO)(v:Value)(W w:World)(O:cj):Prop:=Calls P f args w λe w'=>e=.returned v/\X W w' O
def cX{f:FuncId}{xs:Array Operand}{ats:Array TypeId}{args:nO}{R:Ending->World->Prop}(hc:∀args w,(callFunc f args).run P w=.ok (.enter f args) w)(g:Calls P f args w R)
 (h:∀e b,R e b->Gi e λv=>aZ P n ops rest N (put V o.dst v) b)
 (d:o.op=.call {callee:=.value (.func f),args:=xs,argTypes:=ats}:=by rfl) (hg:o.guard=none:=by rfl) (c:cV n o.dst=true:=by rfl) (a:xs.map (ev V)=args:=by kernel_rfl):aZ P n ops (o::rest) N V w:=
 sF args hc (g.mono λe b he=>(h e b he).ex) d hg c a
def Gl{f:FuncId}{t:Tmp}{xs:Array Operand}{ats:Array TypeId}{args:nO}(cap:nO){R:Ending->World->Prop}(hc:∀args w,(callFunc f args).run P w=.ok (.enter f args) w)(g:Calls P f args w R)
 (h:∀e b,R e b->Gi e λv=>aZ P n ops rest N (put V o.dst v) b)
 (d:o.op=.call {callee:=.value (.tmp t),args:=xs,argTypes:=ats}:=by rfl) (hg:o.guard=none:=by rfl) (c:cV n o.dst=true:=by rfl) (hf:V t=.func (.func f) #[] cap:=by kernel_rfl) (a:xs.map (ev V)++cap=args:=by kernel_rfl):aZ P n ops (o::rest) N V w:=
 sC args cap hc (g.mono λe b he=>(h e b he).ex) d hg c hf a
def V3{b:Code}{γ:Type}(e:γ->List (Nat×Value))(I:γ->World->Prop)(i:γ->Nat)(f:γ)(h0:I f w)
 (h:∀g V w,I g w->bu P n b (fU (λc d=>∃a,i a<i g/\kg c (e a)/\I a d) K) (w8 V (e g)) w) (ha:kg V (e f):=by exact HP):bu P n (.loop b) K V w:=
 Ve (λg V w=>kg V (e g)/\I g w) i f ⟨ha,h0⟩ λg V w a=>xM a.1 λV=>h g V w a.2
def aaP{γ:Type}(a:γ->List (Nat×Value))(I:γ->World->Prop)(h:bu P n x (fU (λV w=>∃g,kg V (a g)/\I g w) K) V w)
 (b:∀g V w,I g w->bu P n y K (w8 V (a g)) w):bu P n (.seq x y) K V w:=
 ZE (λV w=>∃g,kg V (a g)/\I g w) h λV w⟨g,ha,a⟩=>xM ha λV=>b g V w a
section
variable{R0 cs0:cj}{w0:World}{γ:Type}
def Sn(V:Env)(a:gB):kg V (keep V a):=by
 induction a with
 |nil=>trivial
 |cons i a a=>exact⟨rfl,a⟩
def Cq{V:Env}:∀{a b:List (Nat×Value)},kg V a->kg V b->kg V (a++b)
 |[],_,_,h=>h
 |_::_,_,h,c=>⟨h.1,Cq h.2 c⟩
def qA.all{b V:Env}{a:List (Nat×Value)}{c:gB}(h:qA b a V c):kg b (a++keep V c):=by
 refine Cq h.1 ?_;have a:=h.2
 induction c with
 |nil=>trivial
 |cons i c b=>
  simp only[Yw,Ys,WZ,XQ,aeI] at a;exact⟨a.1,b ⟨h.1,by rw[a.2]⟩ a.2⟩
def sA{b V:Env}{a:gB}(h:Yw b a=Ys V a:=by kernel_rfl):Yw b a=Ys V a:=h
def bR{c V:Env}{b:List (Nat×Value)}{a:gB}(h:b.map (λx=>c x.1)=b.map (λx=>x.2):=by kernel_rfl)(d:Yw c a=Ys V a:=by kernel_rfl):qA c b V a:=⟨HP h,d⟩
def Vt{b:Code}(j:gB)(c:γ->cj->LI)(k:γ)(h0:(c k R0).P W w)
 (h:∀g f w,(c g R0).P W w->bu P n b (fU (λa d=>∃i,(c i R0).m<(c g R0).m/\qA a (c i R0).sl V j/\(c i R0).P W d) K) (w8 f ((c g R0).sl++keep V j)) w) (ha:kg V (c k R0).sl:=by exact HP):bu P n (.loop b) K V w:=
 Ve (λg f w=>kg f ((c g R0).sl++keep V j)/\(c g R0).P W w) (λg=>(c g R0).m) k ⟨Cq ha (Sn V j),h0⟩ λg f w a=>xM a.1 λf=>(h g f w a.2).mono λe V w d=>by
  cases e with
  |normal=>let⟨i,h1,c,a⟩:=d;exact⟨i,h1,c.all,a⟩
  |_=>exact d
def YI{x y:Code}(a:X W w0 cs0)(k:Nat)(d:gB)(b:γ->cj->LI)(h:bu P n x (fU (λc w=>∃g,qA c (b g R0).sl V d/\(b g R0).P W w) K) V w)
 (e:∀g c w,(b g R0).P W w->bu P n y K (w8 c ((b g R0).sl++keep V d)) w) (a:Tl k cs0 R0:=by repeat constructor):bu P n (.seq x y) K V w:=
 ZE (λc w=>∃g,qA c (b g R0).sl V d/\(b g R0).P W w) h λc w⟨g,ha,a⟩=>xM ha.all λc=>e g c w a
end
def lA(l:X W w O)(i off k:Nat){t:TypeId}{x:Operand}{b:Nat}{c:nO}{E:TypeId}{f:Nat×Nat}(e:(isAgg t).run P w=.ok true w)(d:(sizeOf t).run P w=.ok k w)(h:aZ P n ops rest N (put V o.dst (.agg ((c.toList.drop off).take k).toArray)) w)
 (j:o.op=.load t x:=by rfl) (hg:o.guard=none:=by rfl) (g:cV n o.dst=true:=by rfl) (hi:O[i]?=some [(b,.cells c E f)]:=by rfl) (hx:ev V x=.pointer (some ⟨b,off,none⟩):=by kernel_rfl)
 (a:((c.toList.drop off).take k).length=k:=by kernel_rfl):aZ P n ops (o::rest) N V w:=
 sLA l i off _ e d h j hg g hi hx a (by rw[a])
def tW(j:X W w O)(i off:Nat)(v:Value){t:TypeId}{x y:Operand}{b k:Nat}{c:nO}{E:TypeId}(e:∀w,(sizeOf t).run P w=.ok k w)
 (h:∀a,X W a (O.set i (aW b (wr c off v.cells.toList) E))->aZ P n ops rest N V a)
 (g:o.op=.store t x y:=by rfl) (hg:o.guard=none:=by rfl) (f:o.dst=none:=by rfl) (hi:O[i]?=some (aW b c E):=by rfl)
 (hx:ev V x=.pointer (some ⟨b,off,none⟩):=by kernel_rfl) (hy:ev V y=v:=by kernel_rfl) (d:v.cells.toList.length=k:=by kernel_rfl)
 (h1:v.cells.toList.all (·.oneCell')=true:=by kernel_rfl) (a:Nat.ble (off+v.cells.toList.length) c.size=true:=by kernel_rfl):aZ P n ops (o::rest) N V w:=
 sT2 j i off v e h g hg f hi hx hy d h1 a
def wY{E:gB}{L:en}{s:mv}{listed:Array Bool}{i:Nat}{o:Oper}(v:Value)(hi:ops[i]?=some o)(hy:∀w,nE L i w->Yields P V o v w)(h:fO P n ops E L N (ao s) (listed.setIfInBounds i true) (put V o.dst v) w)(a:cV n o.dst=true:=by rfl)(hg:fg ops n V o.guard=some true:=by kernel_rfl):fO P n ops E L N (ao ((true,[i])::s)) listed V w:=by
 refine⟨o,v,hi,a,?_,h⟩;cases hq:o.guard with
 |none=>exact .inl ⟨hq,hy⟩
 |some g=>let⟨j,b⟩:=g;rw[hq] at hg;exact .inr (.inl ⟨j,b,hq,iq hg,hy⟩)
def mD{E:gB}{L:en}{s:mv}{listed:Array Bool}{i:Nat}{o:Oper}(a b:Int){t u:TypeId}{x y:Operand}(h:fO P n ops E L N (ao s) (listed.setIfInBounds i true) (put V o.dst (.int .i64 (a+b))) w)(e:-9223372036854775808<=a+b/\a+b<=9223372036854775807:=by omega)(hi:ops[i]?=some o:=by rfl)(d:o.op=.binOp .add t x y u:=by rfl)(c:cV n o.dst=true:=by rfl)(hg:fg ops n V o.guard=some true:=by kernel_rfl)(hx:ev V x=.int .i64 a:=by kernel_rfl)(hy:ev V y=.int .i64 b:=by kernel_rfl):fO P n ops E L N (ao ((true,[i])::s)) listed V w:=wY _ hi (λ_ _=>PB d hx hy e) h c hg
def vY{E:gB}{L:en}{s:mv}{listed:Array Bool}{i:Nat}{o:Oper}(a b:Int){t u:TypeId}{x y:Operand}(h:fO P n ops E L N (ao s) (listed.setIfInBounds i true) (put V o.dst (.int .i64 (a-b))) w)(e:-9223372036854775808<=a-b/\a-b<=9223372036854775807:=by omega)(hi:ops[i]?=some o:=by rfl)(d:o.op=.binOp .sub t x y u:=by rfl)(c:cV n o.dst=true:=by rfl)(hg:fg ops n V o.guard=some true:=by kernel_rfl)(hx:ev V x=.int .i64 a:=by kernel_rfl)(hy:ev V y=.int .i64 b:=by kernel_rfl):fO P n ops E L N (ao ((true,[i])::s)) listed V w:=wY _ hi (λ_ _=>Ps d hx hy e) h c hg
def vz{E:gB}{L:en}{s:mv}{listed:Array Bool}{i:Nat}{o:Oper}(a b:Int){t u:TypeId}{x y:Operand}(h:fO P n ops E L N (ao s) (listed.setIfInBounds i true) (put V o.dst (.int .i64 (a*b))) w)(e:-9223372036854775808<=a*b/\a*b<=9223372036854775807:=by omega)(hi:ops[i]?=some o:=by rfl)(d:o.op=.binOp .mul t x y u:=by rfl)(c:cV n o.dst=true:=by rfl)(hg:fg ops n V o.guard=some true:=by kernel_rfl)(hx:ev V x=.int .i64 a:=by kernel_rfl)(hy:ev V y=.int .i64 b:=by kernel_rfl):fO P n ops E L N (ao ((true,[i])::s)) listed V w:=wY _ hi (λ_ _=>Pq d hx hy e) h c hg
def WW{E:gB}{L:en}{s:mv}{listed:Array Bool}{i:Nat}{o:Oper}(a b:Int){t u:TypeId}{x y:Operand}(h:fO P n ops E L N (ao s) (listed.setIfInBounds i true) (put V o.dst (.int .i64 (a.tmod b))) w)(e:b≠0:=by omega)(hi:ops[i]?=some o:=by rfl)(d:o.op=.binOp .rem t x y u:=by rfl)(c:cV n o.dst=true:=by rfl)(hg:fg ops n V o.guard=some true:=by kernel_rfl)(hx:ev V x=.int .i64 a:=by kernel_rfl)(hy:ev V y=.int .i64 b:=by kernel_rfl):fO P n ops E L N (ao ((true,[i])::s)) listed V w:=wY _ hi (λ_ _=>UR d hx hy e) h c hg
def RW{E:gB}{L:en}{s:mv}{listed:Array Bool}{i:Nat}{o:Oper}(a b:Int){t u:TypeId}{x y:Operand}(h:fO P n ops E L N (ao s) (listed.setIfInBounds i true) (put V o.dst (.int .i64 (a.tdiv b))) w)(f:0<b:=by omega)(e:-9223372036854775808<=a/\a<=9223372036854775807:=by omega)(hi:ops[i]?=some o:=by rfl)(d:o.op=.binOp .quo t x y u:=by rfl)(c:cV n o.dst=true:=by rfl)(hg:fg ops n V o.guard=some true:=by kernel_rfl)(hx:ev V x=.int .i64 a:=by kernel_rfl)(hy:ev V y=.int .i64 b:=by kernel_rfl):fO P n ops E L N (ao ((true,[i])::s)) listed V w:=wY _ hi (λ_ _=>Vh d hx hy f e) h c hg
def oI{E:gB}{L:en}{s:mv}{listed:Array Bool}{i:Nat}{o:Oper}(v:Value)(k:Nat){t:TypeId}{x:Operand}{a:Addr}(c:∀w,(isAgg t).run P w=.ok false w)(h:fO P n ops E L N (ao s) (listed.setIfInBounds i true) (put V o.dst v) w)(hi:ops[i]?=some o:=by rfl)(f:L[k]?=some (i,a,v):=by rfl)(d:o.op=.load t x:=by rfl)(e:cV n o.dst=true:=by rfl)(hg:fg ops n V o.guard=some true:=by kernel_rfl)(hx:ev V x=.pointer (some a):=by kernel_rfl):fO P n ops E L N (ao ((true,[i])::s)) listed V w:=wY _ hi (λw b=>wa d (c w) hx (b k _ _ f)) h e hg
def qY{E:gB}{L:en}{s:iN}{listed:Array Bool}{i:Nat}{o:Oper}(v:Value)(hi:ops[i]?=some o)(hy:∀w,nE L i w->Yields P V o v w)(h:ey P n ops E L N s (listed.setIfInBounds i true) (put V o.dst v) w)(a:cV n o.dst=true:=by rfl)(hg:fg ops n V o.guard=some true:=by kernel_rfl):ey P n ops E L N (.st i s) listed V w:=by
 refine⟨o,v,hi,a,?_,h⟩;cases hq:o.guard with
 |none=>exact .inl ⟨hq,hy⟩
 |some g=>let⟨j,b⟩:=g;rw[hq] at hg;exact .inr (.inl ⟨j,b,hq,iq hg,hy⟩)
def aav{E:gB}{L:en}{s:iN}{listed:Array Bool}{i:Nat}{o:Oper}(a b:Int){t u:TypeId}{x y:Operand}(h:ey P n ops E L N s (listed.setIfInBounds i true) (put V o.dst (.int .i64 (a+b))) w)(e:-9223372036854775808<=a+b/\a+b<=9223372036854775807:=by omega)(hi:ops[i]?=some o:=by rfl)(d:o.op=.binOp .add t x y u:=by rfl)(c:cV n o.dst=true:=by rfl)(hg:fg ops n V o.guard=some true:=by kernel_rfl)(hx:ev V x=.int .i64 a:=by kernel_rfl)(hy:ev V y=.int .i64 b:=by kernel_rfl):ey P n ops E L N (.st i s) listed V w:=qY _ hi (λ_ _=>PB d hx hy e) h c hg
def YT{E:gB}{L:en}{s:iN}{listed:Array Bool}{i:Nat}{o:Oper}(a b:Int){t u:TypeId}{x y:Operand}(h:ey P n ops E L N s (listed.setIfInBounds i true) (put V o.dst (.int .i64 (a-b))) w)(e:-9223372036854775808<=a-b/\a-b<=9223372036854775807:=by omega)(hi:ops[i]?=some o:=by rfl)(d:o.op=.binOp .sub t x y u:=by rfl)(c:cV n o.dst=true:=by rfl)(hg:fg ops n V o.guard=some true:=by kernel_rfl)(hx:ev V x=.int .i64 a:=by kernel_rfl)(hy:ev V y=.int .i64 b:=by kernel_rfl):ey P n ops E L N (.st i s) listed V w:=qY _ hi (λ_ _=>Ps d hx hy e) h c hg
def abd{E:gB}{L:en}{s:iN}{listed:Array Bool}{i:Nat}{o:Oper}(a b:Int){t u:TypeId}{x y:Operand}(h:ey P n ops E L N s (listed.setIfInBounds i true) (put V o.dst (.int .i64 (a*b))) w)(e:-9223372036854775808<=a*b/\a*b<=9223372036854775807:=by omega)(hi:ops[i]?=some o:=by rfl)(d:o.op=.binOp .mul t x y u:=by rfl)(c:cV n o.dst=true:=by rfl)(hg:fg ops n V o.guard=some true:=by kernel_rfl)(hx:ev V x=.int .i64 a:=by kernel_rfl)(hy:ev V y=.int .i64 b:=by kernel_rfl):ey P n ops E L N (.st i s) listed V w:=qY _ hi (λ_ _=>Pq d hx hy e) h c hg
def Zr{E:gB}{L:en}{s:iN}{listed:Array Bool}{i:Nat}{o:Oper}(v:Value)(k:Nat){t:TypeId}{x:Operand}{a:Addr}(c:∀w,(isAgg t).run P w=.ok false w)(h:ey P n ops E L N s (listed.setIfInBounds i true) (put V o.dst v) w)(hi:ops[i]?=some o:=by rfl)(f:L[k]?=some (i,a,v):=by rfl)(d:o.op=.load t x:=by rfl)(e:cV n o.dst=true:=by rfl)(hg:fg ops n V o.guard=some true:=by kernel_rfl)(hx:ev V x=.pointer (some a):=by kernel_rfl):ey P n ops E L N (.st i s) listed V w:=qY _ hi (λw b=>wa d (c w) hx (b k _ _ f)) h e hg
def nH(n:Nat){f:FuncId}{fn:Func}{b:Code}{args:nO}{R:Ending->World->Prop}(hf:P.funcs[f]?=some fn)(d:fn.body=some b)(h:bu P n b (qC P fn R) (PV args) w)(c:fn.ntmps=n:=by rfl)(a:Nat.ble args.size n=true:=by rfl):Calls P f args w R:=
 Yk hf d c (adl a) h
def gW{α:Type}{l:List α}{k:Nat}{x y:α}(h:l[k]?=some x):(l.set k y)[k]?=some y:=by
 grind
def aF.ptr{α:Type}{enc:α->fa}{E sz:Nat}{a:cf}{len cap k b off:Nat}{xs:List α}{c:af}{x:α}(e:aF enc E sz a len cap xs c)(d:a=some ⟨b,off,none⟩)(hx:xs[k]?=some x):na [c] b (off+k*sz) (enc x):=by
 have d:k<len:=by rw[<-e.1];grind
 obtain⟨y,d,d,hy,hp,_,ha⟩:=aF.elem e ((k:Nat):Int) (by omega) (by omega)
 simp_all
end
end Go.E
set_option linter.all false
namespace Go.E
set_option linter.unusedVariables false
abbrev nS:Value:=.slice none 0 0
def rB{a b:Bool}(h:a=b):Ending.returned (.bool a)=.returned (.bool b):=acd (λb=>Ending.returned (.bool b)) h
def bq{a b:Bool}(h:a=b:=by first|rfl|(rw[acI];simp only[acr,acJ,adM,ne_eq,adt,adE,true_iff,false_iff,iff_true,iff_false,adJ,ach,aed,ae3,aeM]<;>omega)|(rw[acI];simp[*]<;>omega)|(simp_all;done)):a=b:=h
def mT{p:Prop}[Decidable p]{v:Value}(h:p)(e:v=.bool true:=by kernel_rfl):v=.bool (decide p):=e.trans (acd Value.bool (acg h).symm)
def mF0{p:Prop}[Decidable p]{v:Value}(h:¬p)(e:v=.bool false:=by kernel_rfl):v=.bool (decide p):=e.trans (acd Value.bool (acb h).symm)
def mB{a:Bool}{v:Value}(b:Bool)(h:b=a)(e:v=.bool b:=by kernel_rfl):v=.bool a:=e.trans (acd Value.bool h)
def rN{α:Type}{enc:α->fa}{sz:Nat}{O:cj}(he:∀x,(enc x).length=sz:=by intro _;rfl):bl enc sz O none 0 0 []:=bl.nil he O
def bs{a b:Bool}(h:a=b:=by rw[acI];simp_all):a=b:=h
def bm{a b:Bool}(h:a=b:=by rw[acI];simp only[acr,acJ,adM,ne_eq,adt,adE,ae3,aeM,ach,aed,adX,aem,adY,adq]<;>omega):a=b:=h
section
variable{P:Program}{n:Nat}{V:Env}{W w:World}{O:cj}{ops:Array Oper}{rest:List Oper}{N:Env->World->Prop}{K:Exit->Env->World->Prop}
def cI{A:Prop}{b off:Nat}{c:nO}{E:TypeId}{f:Nat×Nat}{v:Value}(h:X W w O)(i:Nat)(hi:O[i]?=some [(b,.cells c E f)]:=by rfl)(a:c[off]?=some v:=by rfl):A\/w.cell? ⟨b,off,none⟩=some v:=.inr (h.cell i hi a)
def zS{b:Exit->Env->World->Prop}{a:Nat}{l:List Oper}{y:Code}(h:aZ P n l.toArray l (fU (bu P n y K) K .normal) V w):aZ P n ops [] (fU (bu P n (.seq (.region a l.toArray false) y) K) b .normal) V w:=nT (sR h)
def zE{a:Exit->Env->World->Prop}(h:K .ret V w):aZ P n ops [] (fU (bu P n .ret K) a .normal) V w:=nT (Sc h)
def zR{b:Env->World->Prop}{a:Exit->Env->World->Prop}(h:K .ret V w):aZ P n ops [] (fU (bu P n .ret (fU b K)) a .normal) V w:=nT (Sc (C6 h))
def zB{c:Env->World->Prop}{a:Nat}{b:Exit->Env->World->Prop}(h:K .ret V w):aZ P n ops [] (fU (bu P n .ret (kq a (fU c K))) b .normal) V w:=nT (Sc (Gd (C6 h)))
def zQ{b:Exit->Env->World->Prop}{a:Nat}{l:List Oper}{y z:Code}(h:aZ P n l.toArray l (fU (bu P n y (fU (bu P n z K) K)) (fU (bu P n z K) K) .normal) V w):aZ P n ops [] (fU (bu P n (.seq (.seq (.region a l.toArray false) y) z) K) b .normal) V w:=nT (cO (sR h))
def zC{b:Exit->Env->World->Prop}{a:Nat}{l:List Oper}{c:Operand}{y z:Code}(h:aZ P n l.toArray l (fU (bu P n y K) K .normal) V w)(hc:ev V c=.bool true:=by kernel_rfl):aZ P n ops [] (fU (bu P n (.cond c (.seq (.region a l.toArray false) y) z) K) b .normal) V w:=nT (nh (sR h) hc)
def kS{b:Nat}{l:List Oper}{y:Code}{a:Exit->Env->World->Prop}(h:aZ P n l.toArray l (fU (bu P n y K) K .normal) V w):bu P n .skip (fU (bu P n (.seq (.region b l.toArray false) y) K) a) V w:=kT (sR h)
def rE{a:Nat}{l:List Oper}(h:aZ P n l.toArray l (K .normal) V w):bu P n (.region a l.toArray false) K V w:=Cb h
def tN{N:Env->World->Prop}(h:N V w):fU N K .normal V w:=h
def tK{N:Env->World->Prop}(h:K .ret V w):fU N K .ret V w:=h
def bN{a:Nat}(h:K .normal V w):kq a K .normal V w:=h
def sTl{o:Oper}(p:X W w O)(i:Nat)(l:fa){t:TypeId}{x y:Operand}{b k:Nat}{c:nO}{E:TypeId}(g:∀w,(sizeOf t).run P w=.ok k w)
 (h:∀a,X W a (O.set i (aW b l.toArray E))->aZ P n ops rest N V a)
 (m:o.op=.store t x y:=by rfl) (hg:o.guard=none:=by rfl) (j:o.dst=none:=by rfl) (hi:O[i]?=some (aW b c E):=by rfl)
 (hx:ev V x=.pointer (some ⟨b,0,none⟩):=by kernel_rfl) (hy:ev V y=.agg l.toArray:=by kernel_rfl) (f:(Value.agg l.toArray).cells.toList=l:=by kernel_rfl) (e:l.length=k:=by kernel_rfl)
 (h1:l.all (·.oneCell')=true:=by kernel_rfl) (a:Nat.ble (0+l.length) c.size=true:=by kernel_rfl) (d:wr c 0 l=l.toArray:=by kernel_rfl):aZ P n ops (o::rest) N V w:=
 sT p i 0 (.agg l.toArray) l l.toArray g h m hg j hi hx hy f e h1 a d
def aa5{fn:Func}{R:Ending->World->Prop}(p:X W w O)(i:Nat)(l:fa)(v:Value){t:TypeId}{k b:Nat}{c:nO}{E:TypeId}{f:Nat×Nat}{d e:Tmp}(m:(isAgg t).run P w=.ok true w)(j:(sizeOf t).run P w=.ok k w)
 (h:R (.returned (packed [.agg l.toArray,v])) w) (o:fn.results=#[.cell d t,.tmp e]:=by rfl) (h1:V d=.pointer (some ⟨b,0,none⟩):=by kernel_rfl) (hi:O[i]?=some [(b,.cells c E f)]:=by rfl) (n:l.length=k:=by rfl)
 (g:(c.toList.drop 0).take l.length=l:=by rfl) (a:V e=v:=by kernel_rfl):qC P fn R .ret V w:=
 hD (rs:=[.cell d t,.tmp e]) o (.cons (.cell _ _ _ _ h1 (nW p i 0 l m j hi n g)) (.cons (.tmp _ _ a) .nil)) h
section
variable{o:Oper}{x y:Code}{c:Operand}
def CD(p:Prop)[Decidable p](a:¬p->bu P n y K V w)(h1:p->bu P n x K V w)(hc:ev V c=.bool (decide p):=by kernel_rfl):bu P n (.cond c x y) K V w:=cD p h1 a hc
def SD(d:Nat)(p:Prop)[Decidable p](b:¬p->aZ P n ops rest N (lU V d (.bool false)) w)(h1:p->aZ P n ops rest N (lU V d (.bool true)) w)(a:V d=.bool (decide p):=by kernel_rfl):aZ P n ops rest N V w:=sD d p h1 b a
def pk(p:Prop)[Decidable p](a:¬p->bu P n x K V w)(h1:p->bu P n y K V w)(hc:ev V c=.bool (!(decide p)):=by kernel_rfl):bu P n (.cond c x y) K V w:=SU p h1 a hc
def zD(d:Nat)(p:Prop)[Decidable p](b:¬p->aZ P n ops rest N (lU V d (.bool true)) w)(h1:p->aZ P n ops rest N (lU V d (.bool false)) w)(a:V d=.bool (!(decide p)):=by kernel_rfl):aZ P n ops rest N V w:=sDn d p h1 b a
def CE(a b:Int)(d:¬(a=b)->bu P n y K V w)(h1:a=b->bu P n x K V w)(hc:ev V c=.bool (a==b):=by kernel_rfl):bu P n (.cond c x y) K V w:=cE a b h1 d hc
def SE(d:Nat)(a b:Int)(e:¬(a=b)->aZ P n ops rest N (lU V d (.bool false)) w)(h1:a=b->aZ P n ops rest N (lU V d (.bool true)) w)(c:V d=.bool (a==b):=by kernel_rfl):aZ P n ops rest N V w:=sE d a b h1 e c
def CN(a b:Int)(d:¬(a=b)->bu P n x K V w)(h1:a=b->bu P n y K V w)(hc:ev V c=.bool (a !=b):=by kernel_rfl):bu P n (.cond c x y) K V w:=cN a b h1 d hc
def SN(d:Nat)(a b:Int)(e:¬(a=b)->aZ P n ops rest N (lU V d (.bool true)) w)(h1:a=b->aZ P n ops rest N (lU V d (.bool false)) w)(c:V d=.bool (a !=b):=by kernel_rfl):aZ P n ops rest N V w:=sN d a b h1 e c
def CB(t:Bool)(a:¬(t=true)->bu P n y K V w)(h1:t=true->bu P n x K V w)(hc:ev V c=.bool (t):=by kernel_rfl):bu P n (.cond c x y) K V w:=cB t h1 a hc
def SB(d:Nat)(t:Bool)(b:¬(t=true)->aZ P n ops rest N (lU V d (.bool false)) w)(h1:t=true->aZ P n ops rest N (lU V d (.bool true)) w)(a:V d=.bool (t):=by kernel_rfl):aZ P n ops rest N V w:=sB d t h1 b a
def uP(t:Bool)(a:¬(t=true)->bu P n x K V w)(h1:t=true->bu P n y K V w)(hc:ev V c=.bool (!(t)):=by kernel_rfl):bu P n (.cond c x y) K V w:=UX t h1 a hc
def Dk(d:Nat)(t:Bool)(b:¬(t=true)->aZ P n ops rest N (lU V d (.bool true)) w)(h1:t=true->aZ P n ops rest N (lU V d (.bool false)) w)(a:V d=.bool (!(t)):=by kernel_rfl):aZ P n ops rest N V w:=sBn d t h1 b a
end
def bC(p:Prop){G:Prop}(a:¬p->G)(h1:p->G):G:=(Classical.em p).elim h1 a
def bD(p:Prop){G:Prop}(h1:p->G)(a:¬p->G):G:=(Classical.em p).elim h1 a
end
def Jt{P:Prop}(h:P:=by(repeat' split)<;>first|rfl|(exfalso;omega)|contradiction|(exfalso;simp_all;done)|(simp_all;done)):P:=h
section
variable{α:Type}{enc:α->fa}{sz:Nat}{a:cf}{len cap:Nat}{xs:List α}{c:af}{E:Nat}{P:Program}{n:Nat}{V:Env}{W w:World}{O:cj}{ops:Array Oper}{rest:List Oper}{N:Env->World->Prop}{o:Oper}{t:TypeId}{x y:Operand}{f:FuncId}{os:Array Operand}{ats:Array TypeId}{args:nO}{v:Value}
def mF{c:af}(i:Nat)(h:O[i]?=some c:=by rfl):∀p∈[c].flatten,p∈[O.flatten].flatten:=Kv i h
def bl.fl{c:af}(h:bl enc sz [c] a len cap xs)(i:Nat)(hi:O[i]?=some c:=by rfl):bl enc sz [O.flatten] a len cap xs:=bl.ao (h.up i hi)
def bl.eN(c:bl enc sz O a len cap xs)(i:Nat)(h1:i<len:=by first|omega|decide):∃x b off,xs[i]?=some x/\na O b off (enc x)/\nJ a (i:Int) len sz b off:=bl.elem c (i:Int) (by omega) (by omega)
def aF.eN(d:aF enc E sz a len cap xs c)(i:Nat)(h1:i<len:=by first|omega|decide):∃x b off,xs[i]?=some x/\na [c] b (off+i*sz) (enc x)/\nJ a (i:Int) len sz b (off+i*sz)/\a=some ⟨b,off,none⟩:=aF.elem d (i:Int) (by omega) (by omega)
def oJ(j:bl enc sz O a len cap xs)(i:Int)(h:∀x b off,xs[i.toNat]?=some x->na O b off (enc x)->aZ P n ops rest N (put V o.dst (.pointer (some ⟨b,off,none⟩))) w)(h0:0<=i:=by omega)(h1:i<len:=by first|omega|decide)
 (g:o.op=.indexAddr t x y:=by rfl) (hg:o.guard=none:=by rfl) (f:cV n o.dst=true:=by rfl) (e:TC P t sz=true:=by kernel_rfl) (hx:ev V x=.slice a len cap:=by kernel_rfl) (hy:ev V y=.int .i64 i:=by kernel_rfl):aZ P n ops (o::rest) N V w:=by
 let⟨E,d,c⟩:=Ac e;exact aaJ j i d c h h0 h1 g hg f hx hy
def kQ(f:bl enc sz O a len cap xs)(i:Nat)(h:∀x b off,xs[i]?=some x->na O b off (enc x)->aZ P n ops rest N (put V o.dst (.pointer (some ⟨b,off,none⟩))) w)(h1:i<len:=by first|omega|decide)
 (e:o.op=.indexAddr t x y:=by rfl) (hg:o.guard=none:=by rfl) (d:cV n o.dst=true:=by rfl) (c:TC P t sz=true:=by kernel_rfl) (hx:ev V x=.slice a len cap:=by kernel_rfl) (hy:ev V y=.int .i64 (i:Int):=by kernel_rfl):aZ P n ops (o::rest) N V w:=
 oJ f (i:Int) h (by omega) (by omega) e hg d c hx hy
def i9(e:aF enc E sz a len cap xs c)(i:Int)(k:Nat)(h:∀x b off,xs[k]?=some x->na [c] b (off+k*sz) (enc x)->a=some ⟨b,off,none⟩->aZ P n ops rest N (put V o.dst (.pointer (some ⟨b,off+k*sz,none⟩))) w)(h0:0<=i:=by omega)(h1:i<len:=by first|omega|decide)
 (r:o.op=.indexAddr t x y:=by rfl) (hg:o.guard=none:=by rfl) (q:cV n o.dst=true:=by rfl) (p:TC P t sz=true:=by kernel_rfl) (hx:ev V x=.slice a len cap:=by kernel_rfl) (hy:ev V y=.int .i64 i:=by kernel_rfl) (d:i.toNat=k:=by first|rfl|omega):aZ P n ops (o::rest) N V w:=by
 subst d;have d:i.toNat<xs.length:=by rw[e.1];omega
 have d:bl enc sz [c] a len cap xs:=e.dt 0 Z;obtain⟨j,b,off,m,l,f,g⟩:=aF.elem e i h0 h1;obtain⟨d,e,d⟩:=Ac p;exact bh _ hg q (rf r e d hx hy f) (h j b off m l g)
def cal(hc:c8 P (callFunc f args)=some (.enter f args))(w:World):(callFunc f args).run P w=.ok (.enter f args) w:=dB P _ _ hc w
def cZ{R:Ending->World->Prop}(g:Calls P f args w R)(h:∀e b,R e b->Gi e λv=>aZ P n ops rest N (put V o.dst v) b)
 (d:o.op=.call {callee:=.value (.func f),args:=os,argTypes:=ats}:=by rfl) (hg:o.guard=none:=by rfl) (c:cV n o.dst=true:=by rfl) (hc:c8 P (callFunc f args)=some (.enter f args):=by kernel_rfl) (a:os.map (ev V)=args:=by kernel_rfl):aZ P n ops (o::rest) N V w:=by
 refine ye hg c ?_ (g.mono λe b he=>(h e b he).ex);unfold execOp;rw[d];simp[resolve,ev,Deferred.ofValue,invoke,a,cal hc]
def cS(d:Calls P f args w λe a=>e=.returned v/\X W a [O.flatten])(h:∀a,X W a O->aZ P n ops rest N (put V o.dst v) a)
 (g:o.op=.call {callee:=.value (.func f),args:=os,argTypes:=ats}:=by rfl) (hg:o.guard=none:=by rfl) (c:cV n o.dst=true:=by rfl) (hc:c8 P (callFunc f args)=some (.enter f args):=by kernel_rfl) (b:os.map (ev V)=args:=by kernel_rfl):aZ P n ops (o::rest) N V w:=
 cZ (d.mono λe a he=>(⟨v,he.1,h a (X.zk he.2)⟩:∃v,e=.returned v/\aZ P n ops rest N (put V o.dst v) a)) (λe a⟨v,h1,a⟩=>by subst h1;exact a) g hg c hc b
def eD(d:X W w O)(l:fa)(h:∀b a,X W a (aW b l.toArray t::O)->aZ P n ops rest N (put V o.dst (.pointer (some ⟨b,0,none⟩))) a)
 (c:o.op=.box t x:=by rfl) (hg:o.guard=none:=by rfl) (a:cV n o.dst=true:=by rfl) (hx:ev V x=.agg l.toArray:=by kernel_rfl):aZ P n ops (o::rest) N V w:=NO d (.agg l.toArray) l.toArray h c hg a hx Z
def bP(k:X W w O)(i:Nat){b:Nat}{c:nO}{E:TypeId}(hi:O[i]?=some (aW b c E))(l:fa)
 (h:∀a,X W a (O.set i (aW b l.toArray E))->aZ P n ops rest N V a)
 (j:o.op=.store t x y:=by rfl) (hg:o.guard=none:=by rfl) (g:o.dst=none:=by rfl) (e:c8 P (sizeOf t)=some l.length:=by kernel_rfl)
 (hx:ev V x=.pointer (some ⟨b,0,none⟩):=by kernel_rfl) (hy:ev V y=.agg l.toArray:=by kernel_rfl) (f:(Value.agg l.toArray).cells.toList=l:=by kernel_rfl)
 (h1:l.all (·.oneCell')=true:=by kernel_rfl) (a:Nat.ble (0+l.length) c.size=true:=by kernel_rfl) (d:wr c 0 l=l.toArray:=by kernel_rfl):aZ P n ops (o::rest) N V w:=
 sTl k i l (dB P _ _ e) h j hg g hi hx hy f Z h1 a d
def eX(g:X W w O)(i:Nat){b:Nat}{c:nO}{E:TypeId}(hi:O[i]?=some (aW b c E))(off:Nat)(v:Value)
 (h:∀a,X W a (O.set i (aW b (wr c off v.cells.toList) E))->aZ P n ops rest N V a)
 (f:o.op=.store t x y:=by rfl) (hg:o.guard=none:=by rfl) (e:o.dst=none:=by rfl) (d:c8 P (sizeOf t)=some v.cells.toList.length:=by kernel_rfl)
 (hx:ev V x=.pointer (some ⟨b,off,none⟩):=by kernel_rfl) (hy:ev V y=v:=by kernel_rfl)
 (h1:v.cells.toList.all (·.oneCell')=true:=by kernel_rfl) (a:Nat.ble (off+v.cells.toList.length) c.size=true:=by kernel_rfl):aZ P n ops (o::rest) N V w:=
 tW g i off v (dB P _ _ d) h f hg e hi hx hy Z h1 a
def xk{fn:Func}{R:Ending->World->Prop}(m:X W w O)(i:Nat)(l:fa)(v:Value){b:Nat}{c:nO}{E:TypeId}{f:Nat×Nat}{a g:Tmp}
 (h:R (.returned (packed [.agg l.toArray,v])) w) (k:fn.results=#[.cell a t,.tmp g]:=by rfl) (e:c8 P (isAgg t)=some true:=by kernel_rfl) (d:c8 P (sizeOf t)=some l.length:=by kernel_rfl) (h1:V a=.pointer (some ⟨b,0,none⟩):=by kernel_rfl) (hi:O[i]?=some [(b,.cells c E f)]:=by rfl)
 (j:(c.toList.drop 0).take l.length=l:=by rfl) (a:V g=v:=by kernel_rfl):qC P fn R .ret V w:=aa5 m i l v (dB P _ _ e w) (dB P _ _ d w) h k h1 hi Z j a
def lB(l:X W w O)(i off k:Nat){b:Nat}{c:nO}{E:TypeId}{f:Nat×Nat}(h:aZ P n ops rest N (put V o.dst (.agg ((c.toList.drop off).take k).toArray)) w)
 (j:o.op=.load t x:=by rfl) (hg:o.guard=none:=by rfl) (g:cV n o.dst=true:=by rfl) (hi:O[i]?=some [(b,.cells c E f)]:=by rfl) (d:c8 P (isAgg t)=some true:=by kernel_rfl) (a:c8 P (sizeOf t)=some k:=by kernel_rfl) (hx:ev V x=.pointer (some ⟨b,off,none⟩):=by kernel_rfl)
 (e:((c.toList.drop off).take k).length=k:=by kernel_rfl):aZ P n ops (o::rest) N V w:=lA l i off k (dB P _ _ d w) (dB P _ _ a w) h j hg g hi hx e
def sM(j:X W w O)(i off:Nat)(v:Value){b:Nat}{c:nO}{E:TypeId}{f:Nat×Nat}(h:aZ P n ops rest N (put V o.dst v) w)
 (g:o.op=.load t x:=by rfl) (hg:o.guard=none:=by rfl) (e:cV n o.dst=true:=by rfl) (hi:O[i]?=some [(b,.cells c E f)]:=by rfl) (a:c8 P (isAgg t)=some false:=by kernel_rfl) (hx:ev V x=.pointer (some ⟨b,off,none⟩):=by kernel_rfl) (d:c[off]?=some v:=by kernel_rfl):aZ P n ops (o::rest) N V w:=
 bh v hg e (wa g (dB P _ _ a w) hx (j.cell i hi d)) h
def eB(f:X W w O){b off:Nat}{l:fa}(hp:na O b off l)(k:Nat)(v:Value)(h:aZ P n ops rest N (put V o.dst v) w)
 (e:o.op=.load t x:=by rfl) (hg:o.guard=none:=by rfl) (d:cV n o.dst=true:=by rfl) (a:c8 P (isAgg t)=some false:=by kernel_rfl) (hx:ev V x=.pointer (some ⟨b,off+k,none⟩):=by kernel_rfl) (c:l[k]?=some v:=by kernel_rfl):
 aZ P n ops (o::rest) N V w:=sLp f hp k v (dB P _ _ a w) h e hg d hx c
def lv(j:X W w O){b off:Nat}{l:fa}(hp:na O b off l)(i:Nat)(vs:fa)(h:aZ P n ops rest N (put V o.dst (.agg vs.toArray)) w)
 (g:o.op=.load t x:=by rfl) (hg:o.guard=none:=by rfl) (f:cV n o.dst=true:=by rfl) (d:c8 P (isAgg t)=some true:=by kernel_rfl) (c:c8 P (sizeOf t)=some vs.length:=by kernel_rfl) (hx:ev V x=.pointer (some ⟨b,off+i,none⟩):=by kernel_rfl) (a:Nat.ble (i+vs.length) l.length=true:=by kernel_rfl)
 (e:(l.drop i).take vs.length=vs:=by kernel_rfl):aZ P n ops (o::rest) N V w:=aat j hp i vs (dB P _ _ d w) (dB P _ _ c w) h g hg f hx Z a e
def YS(P:Program)(t E len:Nat)(ps:List (Nat×Value)):Option Nat×Bool×Option nO:=match c8 P (underlying t),c8 P (sizeOf E),c8 P (zeroValue E) with
 |some (.slice E'),some sz,some z=>(some E',Nat.ble (len*sz) (2^24),Instr.fill (λi=>some (i*sz,sz)) ((Array.range (len*sz)).map ((if len*sz=0 then #[] else z.cells)[·%(if len*sz=0 then #[] else z.cells).size]!)) ps)
 |_,_,_=>(none,false,none)
def ec(hS:X W w O)(c:nO)(E:Nat){len:Nat}{parts:Array (Nat×Operand)}(h:∀b w',X W w' (aW b c E::O)->aZ P n ops rest N (put V o.dst (.slice (some ⟨b,0,none⟩) len len)) w')
 (ho:o.op=.buildSlice t len parts:=by rfl) (hg:o.guard=none:=by rfl) (hd:cV n o.dst=true:=by rfl) (hb:YS P t E len (parts.map λ(i,x)=>(i,ev V x)).toList=(some E,true,some c):=by kernel_rfl):aZ P n ops (o::rest) N V w:=by
 unfold YS at hb;split at hb
 ·rename_i E' sz z e1 e2 e3;simp only[aeF,adh] at hb;obtain⟨rfl,hl,hf⟩:=hb;exact sBS hS c (dB P _ _ e1) (dB P _ _ e2) (dB P _ _ e3) h ho hg hd hl hf
 ·cases hb
end
abbrev SO:=cf×Nat×Nat×af
abbrev pS:=iN.Lr
section
variable{α:Type}{enc:α->fa}{sz:Nat}{a:cf}{len cap:Nat}{xs:List α}{c:af}{E:Nat}{O:cj}
def bl.ll(h:bl enc sz O a len cap xs):(len<=cap/\cap<=9223372036854775807)/\xs.length=len:=⟨h.le,h.len⟩
def aF.ll(h:aF enc E sz a len cap xs c):(len<=cap/\cap<=9223372036854775807)/\xs.length=len:=⟨h.le,h.len⟩
end
def qV{P:Program}{n:Nat}{V:Env}{w:World}{ops:Array Oper}{E:gB}{listed:Array Bool}{N:Env->World->Prop}{L:en}{s:iN}(k:Nat){l:gB}(h:ey P n ops E L N (iN.Lr (l.drop k) s) (rU (l.take k) listed) (mW P n ops (Jg ops (l.take k)) V) w)(c:((l.take k).all λi=>Nat.blt i ops.size)=true:=by rfl)
 (c:iH P n ops (Jg ops (l.take k)) V=true:=by kernel_rfl):ey P n ops E L N (iN.Lr l s) listed V w:=by
 let he:∀(a b:gB),iN.Lr (a++b) s=iN.Lr a (iN.Lr b s):=λa b=>by induction a with|nil=>rfl|cons x a c=>simp only[acP,iN.Lr,c]
 grind[qU,List.take_append_drop]
end Go.E
