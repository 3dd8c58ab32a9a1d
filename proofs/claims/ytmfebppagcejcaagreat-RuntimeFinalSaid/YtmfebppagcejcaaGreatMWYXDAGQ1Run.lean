import Derived.Test.YtmfebppagcejcaaGreatProg
import Derived.Test.YtmfebppagcejcaaGreatMWYXDAGQ1Fun
set_option linter.all false
namespace Go.E
set_option linter.unusedVariables false
inductive Fr where
 |seq (c:Code)
 |dO (id:Nat)
 |inv (N:Env->World->Prop)
def KS(P:Program)(n:Nat)(R:Exit->Env->World->Prop):List Fr->Exit->Env->World->Prop
 |[]=>R
 | .seq c::fs=>fU (bu P n c (KS P n R fs)) (KS P n R fs)
 | .dO id::fs=>kq id (KS P n R fs)
 | .inv N::fs=>fU N (KS P n R fs)
inductive MS where
 |code (c:Code) (fs:List Fr) (V:Env)
 |ops (os:Array Oper) (l:List Oper) (fs:List Fr) (V:Env)
 |ex (e:Exit) (fs:List Fr) (V:Env)
def MS.G(P:Program)(n:Nat)(R:Exit->Env->World->Prop)(w:World):MS->Prop
 | .code c fs V=>bu P n c (KS P n R fs) V w
 | .ops os l fs V=>aZ P n os l (KS P n R fs .normal) V w
 | .ex e fs V=>KS P n R fs e V w
def Xn:Value->Nat
 | .pointer (some ⟨b,_,none⟩)=>b
 |_=>0
def Ak:Value->Nat
 | .pointer (some ⟨_,o,none⟩)=>o
 |_=>0
def isP:Value->Bool
 | .pointer (some ⟨_,_,none⟩)=>true
 |_=>false
def chX(O:cj)(i:Nat):Option nO:=match O[i]? with
 |some [(_,.cells c _ _)]=>some c
 |_=>none
def MA(c:nO)(h off:Nat):Value:=bif Nat.blt h 100 then c.getD off undef else .agg ((c.toList.drop off).take (h/100)).toArray
def jg(h:Nat):Nat:=bif Nat.blt h 100 then h else h%100
def ldV(O:cj)(h off:Nat):Value:=MA (Ec O (jg h)) h off
def stO(P:Program)(n:Nat)(O:cj)(os:Array Oper)(V:Env)(o:Oper)(hs:gB):Value×gB:=match fg os n V o.guard with
 |some true=>match o.op with
  | .load _ x=>match hs with
   |h::hs=>match chX O (jg h) with
    |some c=>(MA c h (Ak (ev V x)),hs)
    |none=>(undef,hs)
   |[]=>(undef,[])
  |_=>(Rr (c8 P (execOp (ev V) o)),hs)
 |_=>(undef,hs)
def Zy(P:Program)(O:cj)(V:Env)(t:TypeId)(x:Operand)(h:Nat):Bool:=isP (ev V x)&&
 (bif Nat.blt h 100 then QY O h&&Nat.blt (Ak (ev V x)) (Ec O h).size&&(match c8 P (isAgg t) with|some b=>!b|none=>false)
  else QY O (h%100)&&Nat.ble (Ak (ev V x)+h/100) (Ec O (h%100)).size&&(match c8 P (isAgg t) with|some b=>b|none=>false)&&(match c8 P (sizeOf t) with|some k=>Nat.beq k (h/100)|none=>false))
def okO(P:Program)(n:Nat)(O:cj)(os:Array Oper)(V:Env)(o:Oper)(hs:gB):Bool:=cV n o.dst&&match fg os n V o.guard with
 |some true=>match o.op with
  | .load t x=>match hs with
   |h::_=>Zy P O V t x h
   |[]=>false
  |_=>Y4 (c8 P (execOp (ev V) o))
 |some false=>true
 |none=>false
def obO(n:Nat)(O:cj)(os:Array Oper)(V:Env)(o:Oper)(hs:gB):gB×gB:=match fg os n V o.guard with
 |some true=>match o.op with
  | .load _ x=>match hs with
   |h::_=>([Xn (ev V x)],[YC O (jg h)])
   |[]=>([],[])
  |_=>([],[])
 |_=>([],[])
def Tx(P:Program)(n:Nat)(O:cj)(hs:gB):MS->MS×gB
 | .code c fs V=>match c with
  | .seq x y=>(.code x (.seq y::fs) V,hs)
  | .region _ os _=>(.ops os os.toList fs V,hs)
  | .block id c=>(.code c (.dO id::fs) V,hs)
  | .ret=>(.ex .ret fs V,hs)
  | .exit id=>(.ex (.exit id) fs V,hs)
  | .cond c x y=>match ev V c with
   | .bool true=>(.code x fs V,hs)
   |_=>(.code y fs V,hs)
  |_=>(.ex .normal fs V,hs)
 | .ops os l fs V=>match l with
  |[]=>(.ex .normal fs V,hs)
  |o::l=>match stO P n O os V o hs with
   |(v,hs)=>(.ops os l fs (put V o.dst v),hs)
 | .ex e fs V=>match fs with
  | .seq c::fs=>match e with
   | .normal=>(.code c fs V,hs)
   |_=>(.ex e fs V,hs)
  | .dO id::fs=>match e with
   | .exit id'=>(.ex (bif Nat.beq id' id then .normal else .exit id') fs V,hs)
   |_=>(.ex e fs V,hs)
  | .inv _::fs=>(.ex e fs V,hs)
  |[]=>(.ex e [] V,hs)
def isN:Exit->Bool
 | .normal=>true
 |_=>false
def Y7(P:Program)(n:Nat)(O:cj)(hs:gB):MS->Bool
 | .code c fs V=>match c with
  | .seq _ _=>true
  | .region _ _ d=>!d
  | .block _ _=>true
  | .ret=>true
  | .exit _=>true
  | .skip=>true
  | .cond c _ _=>match ev V c with
   | .bool true=>true
   | .bool false=>true
   |_=>false
  |_=>false
 | .ops os l fs V=>match l with
  |[]=>true
  |o::_=>okO P n O os V o hs
 | .ex e fs V=>match fs with
  | .inv _::_=>!isN e
  |_=>true
def VQ(n:Nat)(O:cj)(hs:gB):MS->gB×gB
 | .ops os (o::_) _ V=>obO n O os V o hs
 |_=>([],[])
def run(P:Program)(n:Nat)(O:cj):Nat->gB->MS->MS
 |0,_,s=>s
 |k+1,hs,s=>match Tx P n O hs s with
  |(s',hs')=>run P n O k hs' s'
def ZG(P:Program)(n:Nat)(O:cj):Nat->gB->MS->Bool
 |0,_,_=>true
 |k+1,hs,s=>Y7 P n O hs s&&match Tx P n O hs s with
  |(s',hs')=>ZG P n O k hs' s'
def YK(P:Program)(n:Nat)(O:cj):Nat->gB->MS->gB
 |0,_,_=>[]
 |k+1,hs,s=>(VQ n O hs s).1++match Tx P n O hs s with
  |(s',hs')=>YK P n O k hs' s'
def Zi(P:Program)(n:Nat)(O:cj):Nat->gB->MS->gB
 |0,_,_=>[]
 |k+1,hs,s=>(VQ n O hs s).2++match Tx P n O hs s with
  |(s',hs')=>Zi P n O k hs' s'
section
variable{P:Program}{n:Nat}{R:Exit->Env->World->Prop}{W w:World}{O:cj}
def Xr{v:Value}(h:isP v=true):v=.pointer (some ⟨Xn v,Ak v,none⟩):=by
 unfold isP at h;split at h
 ·rfl
 ·cases h
def Xs{i:Nat}(h:QY O i=true):chX O i=some (Ec O i):=by
 grind[zm,chX]
def Zb{V:Env}{t:TypeId}{x:Operand}{h:Nat}(a:Zy P O V t x h=true):QY O (jg h)=true:=by
 grind[Zy,jg,Nat.blt]
theorem run_pure{α:Type}{s:Sem α}{a:α}(h:c8 P s=some a):s.run P w=.ok a w:=dB P s a h w
def SL(j:X W w O){V:Env}{o:Oper}{t:TypeId}{x:Operand}{h:Nat}(i:o.op=.load t x)(a:Zy P O V t x h=true)(e:Xn (ev V x)=YC O (jg h)):Yields P V o (ldV O h (Ak (ev V x))) w:=by
 unfold Zy at a;rw[ach] at a;let hx:=Xr a.1;let b:=a.2;unfold jg at e;cases hh:Nat.blt h 100 with
 |true=>
  rw[hh] at b e;simp only[afi,ach] at b e;let⟨E,f,g⟩:=zm b.1.1;let a:Ak (ev V x)<(Ec O h).size:=by simpa using b.1.2
  let c:(isAgg t).run P w=.ok false w:=by
   grind[Bool.not_eq_true',run_pure]
  let d:(Ec O h)[Ak (ev V x)]?=some ((Ec O h).getD (Ak (ev V x)) undef):=by simp[Array.getD,a]
  unfold ldV MA jg;rw[hh];simp only[afi];exact wa i c (hx.trans (by rw[e])) (j.cell h g d)
 |false=>
  rw[hh] at b e;simp only[cond_false,ach] at b e;let⟨E,f,g⟩:=zm b.1.1.1;let a:Ak (ev V x)+h/100<=(Ec O (h%100)).size:=adl b.1.1.2
  let c:(isAgg t).run P w=.ok true w:=by
   grind[run_pure]
  let a:(sizeOf t).run P w=.ok (h/100) w:=by
   grind[Nat.eq_of_beq_eq_true,run_pure]
  let hlen:(((Ec O (h%100)).toList.drop (Ak (ev V x))).take (h/100)).length=h/100:=by
   grind
  unfold ldV MA jg;rw[hh];simp only[cond_false];exact xr i c a (hx.trans (by rw[e])) hlen j (na.dO (h%100) g (by rw[hlen]))
def Mp(hS:X W w O)(hs:gB)(s:MS)(hk:Y7 P n O hs s=true)(hb:(VQ n O hs s).1=(VQ n O hs s).2)(h:(Tx P n O hs s).1.G P n R w):s.G P n R w:=by
 cases s with
 |code c fs V=>
  cases c with
  |seq x y=>exact cO h
  |region id os d=>
   simp only[Y7,adt] at hk;subst hk;have h0:aZ P n os os.toList (KS P n R fs .normal) V w:=h;have e:os.toList.toArray=os:=Array.toArray_toList;show bu P n (.region id os false) (KS P n R fs) V w;rw[<-e];exact Cb (by omega)
  |block id c=>exact cW h
  |ret=>exact Sc h
  |exit id=>exact ql h
  |skip=>exact nY h
  |cond c x y=>
   simp only[Y7] at hk;simp only[Tx] at h;split at h
   ·rename_i e;exact tO e h
   ·rename_i e;split at hk
    ·rename_i e2;exact absurd e2 e
    ·rename_i e2;exact qB e2 h
    ·cases hk
  |_=>cases hk
 |ops os l fs V=>
  cases l with
  |nil=>exact er h
  |cons o l=>
   simp only[Y7,okO,ach] at hk;simp only[VQ,obO] at hb;simp only[Tx,stO] at h;obtain⟨hd,hk⟩:=hk;cases hg:fg os n V o.guard with
   |none=>rw[hg] at hk;cases hk
   |some b=>
    rw[hg] at hk h hb
    have key:∀v,(b=true->Yields P V o v w)->(b=false->v=undef)->aZ P n os l (KS P n R fs .normal) (put V o.dst v) w->aZ P n os (o::l) (KS P n R fs .normal) V w:=by
     intro v hy hu hr;cases hgo:o.guard with
     |none=>rw[hgo] at hg;simp only[fg,adh] at hg;exact bh v hgo hd (hy hg.symm) hr
     |some g=>
      obtain⟨j,q⟩:=g;rw[hgo] at hg;cases b with
      |true=>
       refine yt hgo (iq hg) (bh v Z hd ?_ hr);have:=hy Z;unfold Yields execOp at this⊢;exact this
      |false=>rw[hu Z] at hr;exact ID hgo hd (AN hg) hr
    cases b with
    |false=>exact key undef (λe=>by cases e) (λ_=>rfl) h
    |true=>
     dsimp only at hk h hb;split at hk
     ·rename_i t x ho;rw[ho] at h hb;cases hs with
      |nil=>cases hk
      |cons q hs=>
       dsimp only at h hb hk;rw[Xs (Zb hk)] at h;exact key _ (λ_=>SL hS ho hk (List.cons.inj hb).1) (λe=>by cases e) h
     ·rename_i hno
      have h':aZ P n os l (KS P n R fs .normal) (put V o.dst (Rr (c8 P (execOp (ev V) o)))) w:=by
       split at h
       ·rename_i t x ho;exact absurd ho (hno t x)
       ·exact h
      refine key _ (λ_=>?_) (λe=>by cases e) h';cases hr:c8 P (execOp (ev V) o) with
      |none=>rw[hr] at hk;cases hk
      |some z=>
       rw[hr] at hk;cases z<;>simp only[Y4] at hk<;>first|contradiction|exact dB P _ _ hr w
 |ex e fs V=>
  cases fs with
  |nil=>exact h
  |cons f fs=>
   cases f with
   |seq c=>cases e<;>exact h
   |dO id=>
    cases e with
    |exit id'=>
     show kq id _ (.exit id') V w;simp only[Tx] at h;cases hi:Nat.beq id' id with
     |true=>rw[hi] at h;have:=ae2 hi;subst this;exact Eo h
     |false=>rw[hi] at h;exact PA hi h
    |_=>exact h
   |inv N=>
    cases e with
    |normal=>cases hk
    |_=>exact h
def kF(f:X W w O):∀(k:Nat) (b:gB) (s:MS),ZG P n O k b s=true->YK P n O k b s=Zi P n O k b s->(run P n O k b s).G P n R w->s.G P n R w
 |0,_,_,_,_,h=>h
 |k+1,b,s,d,e,h=>by
  simp only[ZG,ach] at d;simp only[YK,Zi] at e;simp only[run] at h
  let c:(VQ n O b s).1.length=(VQ n O b s).2.length:=by
   unfold VQ;split
   ·unfold obO;split
    ·split
     ·split<;>rfl
     ·rfl
    ·rfl
   ·rfl
  let⟨h1,a⟩:=List.append_inj e c;exact Mp f b s d.1 h1 (kF f k _ _ d.2 a h)
variable{fs:List Fr}{V:Env}
def oz(w:World):X w w []:=⟨rfl,rfl,rfl,List.nodup_nil,λp hp=>by cases hp⟩
def jX:Env:=λ_=>undef
def MS.env:MS->Env
 | .code _ _ V=>V
 | .ops _ _ _ V=>V
 | .ex _ _ V=>V
def MS.sO:MS->MS
 | .code c fs _=> .code c fs jX
 | .ops os l fs _=> .ops os l fs jX
 | .ex e fs _=> .ex e fs jX
def MS.set:MS->Env->MS
 | .code c fs _,V=> .code c fs V
 | .ops os l fs _,V=> .ops os l fs V
 | .ex e fs _,V=> .ex e fs V
theorem MS.Ke(s:MS):s.sO.set s.env=s:=by cases s<;>rfl
def OK(P:Program)(n:Nat)(O:cj)(k:Nat)(hs:gB)(s:MS):Prop:=ZG P n O k hs s=true/\YK P n O k hs s=Zi P n O k hs s
def qw{k:Nat}{a:gB}{s:MS}(c:ZG P n O k a s=true:=by kernel_rfl)(b:YK P n O k a s=Zi P n O k a s:=by kernel_rfl):OK P n O k a s:=⟨c,b⟩
def gp(d:X W w O){k:Nat}{b:gB}{s t:MS}(c:OK P n O k b s)(a:(run P n O k b s).sO=t)(h:(t.set (run P n O k b s).env).G P n R w):s.G P n R w:=
 kF d k b s c.1 c.2 (by grind[MS.Ke])
variable{fs':List Fr}
def gCC{c:Code}{a:Code}(e:X W w O)(k:Nat)(b:gB)(d:(run P n O k b (.code c fs V)).sO=(.code a fs' jX))(h:bu P n a (KS P n R fs') (run P n O k b (.code c fs V)).env w)(a:OK P n O k b (.code c fs V):=by exact qw):bu P n c (KS P n R fs) V w:=gp e a d h
def Al{c:Code}{a:Code}(k:Nat)(b:(run P n [] k [] (.code c fs V)).sO=(.code a fs' jX))(h:bu P n a (KS P n R fs') (run P n [] k [] (.code c fs V)).env w)(a:OK P n [] k [] (.code c fs V):=by exact qw):bu P n c (KS P n R fs) V w:=gp (oz w) a b h
def Yt{c:Code}{a:Array Oper}{b:List Oper}(f:X W w O)(k:Nat)(d:gB)(e:(run P n O k d (.code c fs V)).sO=(.ops a b fs' jX))(h:aZ P n a b (KS P n R fs' .normal) (run P n O k d (.code c fs V)).env w)(a:OK P n O k d (.code c fs V):=by exact qw):bu P n c (KS P n R fs) V w:=gp f a e h
def GJ{c:Code}{a:Array Oper}{b:List Oper}(k:Nat)(d:(run P n [] k [] (.code c fs V)).sO=(.ops a b fs' jX))(h:aZ P n a b (KS P n R fs' .normal) (run P n [] k [] (.code c fs V)).env w)(a:OK P n [] k [] (.code c fs V):=by exact qw):bu P n c (KS P n R fs) V w:=gp (oz w) a d h
def jCX{c:Code}{a:Exit}(k:Nat)(b:(run P n [] k [] (.code c fs V)).sO=(.ex a fs' jX))(h:KS P n R fs' a (run P n [] k [] (.code c fs V)).env w)(a:OK P n [] k [] (.code c fs V):=by exact qw):bu P n c (KS P n R fs) V w:=gp (oz w) a b h
def LX{c:Code}{b:Exit}(e:X W w O)(k:Nat)(a:gB)(d:(run P n O k a (.code c fs V)).sO=(.ex b [] jX))(h:R b (run P n O k a (.code c fs V)).env w)(b:OK P n O k a (.code c fs V):=by exact qw):bu P n c (KS P n R fs) V w:=gp e b d h
def Am{c:Code}{a:Exit}(k:Nat)(b:(run P n [] k [] (.code c fs V)).sO=(.ex a [] jX))(h:R a (run P n [] k [] (.code c fs V)).env w)(a:OK P n [] k [] (.code c fs V):=by exact qw):bu P n c (KS P n R fs) V w:=gp (oz w) a b h
def gCI{c:Code}{b:Env->World->Prop}(e:X W w O)(k:Nat)(a:gB)(d:(run P n O k a (.code c fs V)).sO=(.ex .normal (.inv b::fs') jX))(h:b (run P n O k a (.code c fs V)).env w)(b:OK P n O k a (.code c fs V):=by exact qw):bu P n c (KS P n R fs) V w:=gp e b d h
def lq{c:Code}{a:Env->World->Prop}(k:Nat)(b:(run P n [] k [] (.code c fs V)).sO=(.ex .normal (.inv a::fs') jX))(h:a (run P n [] k [] (.code c fs V)).env w)(a:OK P n [] k [] (.code c fs V):=by exact qw):bu P n c (KS P n R fs) V w:=gp (oz w) a b h
def gOC{os:Array Oper}{l:List Oper}{a:Code}(d:X W w O)(k:Nat)(b:gB)(c:(run P n O k b (.ops os l fs V)).sO=(.code a fs' jX))(h:bu P n a (KS P n R fs') (run P n O k b (.ops os l fs V)).env w)(a:OK P n O k b (.ops os l fs V):=by exact qw):aZ P n os l (KS P n R fs .normal) V w:=gp d a c h
def VD{os:Array Oper}{l:List Oper}{a:Code}(k:Nat)(b:(run P n [] k [] (.ops os l fs V)).sO=(.code a fs' jX))(h:bu P n a (KS P n R fs') (run P n [] k [] (.ops os l fs V)).env w)(a:OK P n [] k [] (.ops os l fs V):=by exact qw):aZ P n os l (KS P n R fs .normal) V w:=gp (oz w) a b h
def WH{os:Array Oper}{l:List Oper}{a:Array Oper}{b:List Oper}(e:X W w O)(k:Nat)(c:gB)(d:(run P n O k c (.ops os l fs V)).sO=(.ops a b fs' jX))(h:aZ P n a b (KS P n R fs' .normal) (run P n O k c (.ops os l fs V)).env w)(a:OK P n O k c (.ops os l fs V):=by exact qw):aZ P n os l (KS P n R fs .normal) V w:=gp e a d h
def jOO{os:Array Oper}{l:List Oper}{a:Array Oper}{b:List Oper}(k:Nat)(c:(run P n [] k [] (.ops os l fs V)).sO=(.ops a b fs' jX))(h:aZ P n a b (KS P n R fs' .normal) (run P n [] k [] (.ops os l fs V)).env w)(a:OK P n [] k [] (.ops os l fs V):=by exact qw):aZ P n os l (KS P n R fs .normal) V w:=gp (oz w) a c h
def VG{os:Array Oper}{l:List Oper}{a:Exit}(k:Nat)(b:(run P n [] k [] (.ops os l fs V)).sO=(.ex a fs' jX))(h:KS P n R fs' a (run P n [] k [] (.ops os l fs V)).env w)(a:OK P n [] k [] (.ops os l fs V):=by exact qw):aZ P n os l (KS P n R fs .normal) V w:=gp (oz w) a b h
def GK{os:Array Oper}{l:List Oper}{b:Exit}(d:X W w O)(k:Nat)(a:gB)(c:(run P n O k a (.ops os l fs V)).sO=(.ex b [] jX))(h:R b (run P n O k a (.ops os l fs V)).env w)(b:OK P n O k a (.ops os l fs V):=by exact qw):aZ P n os l (KS P n R fs .normal) V w:=gp d b c h
def my{os:Array Oper}{l:List Oper}{a:Exit}(k:Nat)(b:(run P n [] k [] (.ops os l fs V)).sO=(.ex a [] jX))(h:R a (run P n [] k [] (.ops os l fs V)).env w)(a:OK P n [] k [] (.ops os l fs V):=by exact qw):aZ P n os l (KS P n R fs .normal) V w:=gp (oz w) a b h
def Mz{os:Array Oper}{l:List Oper}{b:Env->World->Prop}(d:X W w O)(k:Nat)(a:gB)(c:(run P n O k a (.ops os l fs V)).sO=(.ex .normal (.inv b::fs') jX))(h:b (run P n O k a (.ops os l fs V)).env w)(b:OK P n O k a (.ops os l fs V):=by exact qw):aZ P n os l (KS P n R fs .normal) V w:=gp d b c h
def bX{os:Array Oper}{l:List Oper}{a:Env->World->Prop}(k:Nat)(b:(run P n [] k [] (.ops os l fs V)).sO=(.ex .normal (.inv a::fs') jX))(h:a (run P n [] k [] (.ops os l fs V)).env w)(a:OK P n [] k [] (.ops os l fs V):=by exact qw):aZ P n os l (KS P n R fs .normal) V w:=gp (oz w) a b h
def jXC{e:Exit}{a:Code}(k:Nat)(b:(run P n [] k [] (.ex e fs V)).sO=(.code a fs' jX))(h:bu P n a (KS P n R fs') (run P n [] k [] (.ex e fs V)).env w)(a:OK P n [] k [] (.ex e fs V):=by exact qw):KS P n R fs e V w:=gp (oz w) a b h
def jXR{e:Exit}{a:Exit}(k:Nat)(b:(run P n [] k [] (.ex e fs V)).sO=(.ex a [] jX))(h:R a (run P n [] k [] (.ex e fs V)).env w)(a:OK P n [] k [] (.ex e fs V):=by exact qw):KS P n R fs e V w:=gp (oz w) a b h
def mI{e:Exit}{a:Env->World->Prop}(k:Nat)(b:(run P n [] k [] (.ex e fs V)).sO=(.ex .normal (.inv a::fs') jX))(h:a (run P n [] k [] (.ex e fs V)).env w)(a:OK P n [] k [] (.ex e fs V):=by exact qw):KS P n R fs e V w:=gp (oz w) a b h
def Jy{b:Code}{γ:Type}(e:γ->List (Nat×Value))(I:γ->World->Prop)(i:γ->Nat)(f:γ)(h0:I f w)
 (h:∀g V w,I g w->bu P n b (KS P n R (.inv (λc d=>∃a,i a<i g/\kg c (e a)/\I a d)::fs)) (w8 V (e g)) w) (ha:kg V (e f):=by exact HP):bu P n (.loop b) (KS P n R fs) V w:=V3 e I i f h0 h ha
def XS{x y:Code}{γ:Type}(a:γ->List (Nat×Value))(I:γ->World->Prop)(h:bu P n x (KS P n R (.inv (λV w=>∃g,kg V (a g)/\I g w)::fs)) V w)
 (b:∀g V w,I g w->bu P n y (KS P n R fs) (w8 V (a g)) w):bu P n (.seq x y) (KS P n R fs) V w:=aaP a I h b
section
variable{R0 cs0:cj}{w0:World}{γ:Type}
def bF{b:Code}(j:gB)(c:γ->cj->LI)(f:γ)(h0:(c f R0).P W w)
 (h:∀g i w,(c g R0).P W w->bu P n b (KS P n R (.inv (λa e=>∃d,(c d R0).m<(c g R0).m/\qA a (c d R0).sl V j/\(c d R0).P W e)::fs)) (w8 i ((c g R0).sl++keep V j)) w) (ha:kg V (c f R0).sl:=by exact HP):bu P n (.loop b) (KS P n R fs) V w:=Vt j c f h0 h ha
def eQ{x y:Code}(e:X W w0 cs0)(k:Nat)(c:gB)(a:γ->cj->LI)(h:bu P n x (KS P n R (.inv (λb w=>∃g,qA b (a g R0).sl V c/\(a g R0).P W w)::fs)) V w)
 (d:∀g b w,(a g R0).P W w->bu P n y (KS P n R fs) (w8 b ((a g R0).sl++keep V c)) w) (b:Tl k cs0 R0:=by repeat constructor):bu P n (.seq x y) (KS P n R fs) V w:=YI e k c a h d b
end
def ZS{c:Code}(m:Nat)(h:oc P n c (KS P n R fs) m V w):bu P n (.loop c) (KS P n R fs) V w:=sS m h
def Ip{c:Code}{m:Nat}(h:bu P n c (KS P n R (.inv (oc P n c (KS P n R fs) m)::fs)) V w):oc P n c (KS P n R fs) (m+1) V w:=h
def aq(n:Nat){f:FuncId}{fn:Func}{b:Code}{args:nO}{R:Ending->World->Prop}(hf:P.funcs[f]?=some fn)(d:fn.body=some b)(h:bu P n b (KS P n (qC P fn R) []) (PV args) w)(c:fn.ntmps=n:=by rfl)(a:Nat.ble args.size n=true:=by rfl):Calls P f args w R:=nH n hf d h c a
end
section
variable{W w:World}{P:Program}{n:Nat}{R:Exit->Env->World->Prop}{O:cj}{fs:List Fr}{V:Env}
def Nx(P:Program)(n:Nat)(R:Exit->Env->World->Prop)(w:World)(s:MS):Prop:=(s.sO.set s.env).G P n R w
def nx{s:MS}(h:Nx P n R w s):s.G P n R w:=by
 unfold Nx at h;rw[MS.Ke] at h;exact h
def Q{c:Code}(k:Nat)(h:Nx P n R w (run P n [] k [] (.code c fs V)))(a:OK P n [] k [] (.code c fs V):=by exact qw):bu P n c (KS P n R fs) V w:=kF (oz w) k [] _ a.1 a.2 (nx h)
def GC{c:Code}(d:X W w O)(k:Nat)(b:gB)(h:Nx P n R w (run P n O k b (.code c fs V)))(a:OK P n O k b (.code c fs V):=by exact qw):bu P n c (KS P n R fs) V w:=kF d k b _ a.1 a.2 (nx h)
def RC{fn:Func}{Qz:Ending->World->Prop}{rs:List ResultVar}{c:Code}(k:Nat)(vs:fa)(h:Qz (.returned (packed vs)) w)(e:(run P n [] k [] (.code c fs V)).sO=(.ex .ret [] jX):=by rfl)(d:OK P n [] k [] (.code c fs V):=by exact qw)(b:fn.results=rs.toArray:=by rfl)(a:tmpsOf (run P n [] k [] (.code c fs V)).env rs=some vs:=by kernel_rfl):bu P n c (KS P n (qC P fn Qz) fs) V w:=gp (oz w) d e (fc vs h b a)
def FC{fn:Func}{Qz:Ending->World->Prop}{rs:List ResultVar}{c:Code}(k:Nat)(h:Qz (.returned (.bool false)) w)(e:(run P n [] k [] (.code c fs V)).sO=(.ex .ret [] jX):=by rfl)(d:OK P n [] k [] (.code c fs V):=by exact qw)(b:fn.results=rs.toArray:=by rfl)(a:tmpsOf (run P n [] k [] (.code c fs V)).env rs=some [.bool false]:=by kernel_rfl):bu P n c (KS P n (qC P fn Qz) fs) V w:=RC k [.bool false] h e d b a
def VC{fn:Func}{Qz:Ending->World->Prop}{rs:List ResultVar}{c:Code}(k:Nat)(h:Qz (.returned (.bool true)) w)(e:(run P n [] k [] (.code c fs V)).sO=(.ex .ret [] jX):=by rfl)(d:OK P n [] k [] (.code c fs V):=by exact qw)(b:fn.results=rs.toArray:=by rfl)(a:tmpsOf (run P n [] k [] (.code c fs V)).env rs=some [.bool true]:=by kernel_rfl):bu P n c (KS P n (qC P fn Qz) fs) V w:=RC k [.bool true] h e d b a
def JO{os:Array Oper}{l:List Oper}(k:Nat)(h:Nx P n R w (run P n [] k [] (.ops os l fs V)))(a:OK P n [] k [] (.ops os l fs V):=by exact qw):aZ P n os l (KS P n R fs .normal) V w:=kF (oz w) k [] _ a.1 a.2 (nx h)
def GO{os:Array Oper}{l:List Oper}(c:X W w O)(k:Nat)(b:gB)(h:Nx P n R w (run P n O k b (.ops os l fs V)))(a:OK P n O k b (.ops os l fs V):=by exact qw):aZ P n os l (KS P n R fs .normal) V w:=kF c k b _ a.1 a.2 (nx h)
def RO{fn:Func}{Qz:Ending->World->Prop}{rs:List ResultVar}{os:Array Oper}{l:List Oper}(k:Nat)(vs:fa)(h:Qz (.returned (packed vs)) w)(d:(run P n [] k [] (.ops os l fs V)).sO=(.ex .ret [] jX):=by rfl)(c:OK P n [] k [] (.ops os l fs V):=by exact qw)(b:fn.results=rs.toArray:=by rfl)(a:tmpsOf (run P n [] k [] (.ops os l fs V)).env rs=some vs:=by kernel_rfl):aZ P n os l (KS P n (qC P fn Qz) fs .normal) V w:=gp (oz w) c d (fc vs h b a)
def FO{fn:Func}{Qz:Ending->World->Prop}{rs:List ResultVar}{os:Array Oper}{l:List Oper}(k:Nat)(h:Qz (.returned (.bool false)) w)(d:(run P n [] k [] (.ops os l fs V)).sO=(.ex .ret [] jX):=by rfl)(c:OK P n [] k [] (.ops os l fs V):=by exact qw)(b:fn.results=rs.toArray:=by rfl)(a:tmpsOf (run P n [] k [] (.ops os l fs V)).env rs=some [.bool false]:=by kernel_rfl):aZ P n os l (KS P n (qC P fn Qz) fs .normal) V w:=RO k [.bool false] h d c b a
def VO{fn:Func}{Qz:Ending->World->Prop}{rs:List ResultVar}{os:Array Oper}{l:List Oper}(k:Nat)(h:Qz (.returned (.bool true)) w)(d:(run P n [] k [] (.ops os l fs V)).sO=(.ex .ret [] jX):=by rfl)(c:OK P n [] k [] (.ops os l fs V):=by exact qw)(b:fn.results=rs.toArray:=by rfl)(a:tmpsOf (run P n [] k [] (.ops os l fs V)).env rs=some [.bool true]:=by kernel_rfl):aZ P n os l (KS P n (qC P fn Qz) fs .normal) V w:=RO k [.bool true] h d c b a
def DO{fn:Func}{Qz:Ending->World->Prop}{t:TypeId}{os:Array Oper}{l:List Oper}(k:Nat)(r:X W w O)(i:Nat)(d:fa)(v:Value){b:Nat}{j:nO}{E:TypeId}{f:Nat×Nat}{e m:Tmp}(h:Qz (.returned (packed [.agg d.toArray,v])) w)(q:(run P n [] k [] (.ops os l fs V)).sO=(.ex .ret [] jX):=by rfl)(p:OK P n [] k [] (.ops os l fs V):=by exact qw)(o:fn.results=#[.cell e t,.tmp m]:=by rfl)(c:c8 P (isAgg t)=some true:=by kernel_rfl)(a:c8 P (sizeOf t)=some d.length:=by kernel_rfl)(h1:(run P n [] k [] (.ops os l fs V)).env e=Pt b 0:=by kernel_rfl)(hi:O[i]?=some [(b,.cells j E f)]:=by rfl)(g:(j.toList.drop 0).take d.length=d:=by rfl)(e:(run P n [] k [] (.ops os l fs V)).env m=v:=by kernel_rfl):aZ P n os l (KS P n (qC P fn Qz) fs .normal) V w:=gp (oz w) p q (xk r i d v h o c a h1 hi g e)
def JX{e:Exit}(k:Nat)(h:Nx P n R w (run P n [] k [] (.ex e fs V)))(a:OK P n [] k [] (.ex e fs V):=by exact qw):KS P n R fs e V w:=kF (oz w) k [] _ a.1 a.2 (nx h)
def GX{e:Exit}(c:X W w O)(k:Nat)(b:gB)(h:Nx P n R w (run P n O k b (.ex e fs V)))(a:OK P n O k b (.ex e fs V):=by exact qw):KS P n R fs e V w:=kF c k b _ a.1 a.2 (nx h)
def RX{fn:Func}{Qz:Ending->World->Prop}{rs:List ResultVar}{e:Exit}(k:Nat)(vs:fa)(h:Qz (.returned (packed vs)) w)(d:(run P n [] k [] (.ex e fs V)).sO=(.ex .ret [] jX):=by rfl)(c:OK P n [] k [] (.ex e fs V):=by exact qw)(b:fn.results=rs.toArray:=by rfl)(a:tmpsOf (run P n [] k [] (.ex e fs V)).env rs=some vs:=by kernel_rfl):KS P n (qC P fn Qz) fs e V w:=gp (oz w) c d (fc vs h b a)
def DX{fn:Func}{Qz:Ending->World->Prop}{t:TypeId}{e:Exit}(k:Nat)(r:X W w O)(i:Nat)(g:fa)(v:Value){b:Nat}{l:nO}{E:TypeId}{f:Nat×Nat}{d m:Tmp}(h:Qz (.returned (packed [.agg g.toArray,v])) w)(q:(run P n [] k [] (.ex e fs V)).sO=(.ex .ret [] jX):=by rfl)(p:OK P n [] k [] (.ex e fs V):=by exact qw)(o:fn.results=#[.cell d t,.tmp m]:=by rfl)(c:c8 P (isAgg t)=some true:=by kernel_rfl)(a:c8 P (sizeOf t)=some g.length:=by kernel_rfl)(h1:(run P n [] k [] (.ex e fs V)).env d=Pt b 0:=by kernel_rfl)(hi:O[i]?=some [(b,.cells l E f)]:=by rfl)(j:(l.toList.drop 0).take g.length=g:=by rfl)(d:(run P n [] k [] (.ex e fs V)).env m=v:=by kernel_rfl):KS P n (qC P fn Qz) fs e V w:=gp (oz w) p q (xk r i g v h o c a h1 hi j d)
end
end Go.E
namespace Go.Proofs.YtmfebppagcejcaaGreat
open Go Go.E Go.Proofs.Tryz
set_option linter.all false
set_option maxRecDepth 100000
set_option maxHeartbeats 2000000
section
variable{W w:World}{H:af}{F:cj}
structure Sl(α:Type) where
 a:cf
 n:Nat
 k:Nat
 l:List α
structure bL where
 first:Int
 ad:Sl Int
def ff(x:bL):fa:=[I x.first,.slice x.ad.a x.ad.n x.ad.k]
structure dW where
 first:Int
 ad:aR
 deriving DecidableEq
def bL.v(x:bL):dW:=⟨x.first,x.ad.l⟩
structure bL.Ok(O:cj)(q:bL):Prop where
 ad:bl ca 1 O q.ad.a q.ad.n q.ad.k q.ad.l
def bL.Ok.ag{O cs':cj}{x:bL}(h:bL.Ok O x)(a:∀p∈O.flatten,p∈cs'.flatten):bL.Ok cs' x:=⟨h.ad.ag a⟩
structure fJ where
 code:Int
 arg:Int
 deriving DecidableEq
def gA(x:fJ):fa:=[I x.code,I x.arg]
structure ah where
 w:Int
 h:Int
 aG:Int
 bM:Sl Int
def au(x:ah):fa:=[I x.w,I x.h,I x.aG,.slice x.bM.a x.bM.n x.bM.k]
structure aM where
 w:Int
 h:Int
 aG:Int
 bM:aR
 deriving DecidableEq
def ah.v(x:ah):aM:=⟨x.w,x.h,x.aG,x.bM.l⟩
abbrev zP:ah:=⟨0,0,0,⟨none,0,0,[]⟩⟩
structure ah.Ok(O:cj)(q:ah):Prop where
 bM:bl ca 1 O q.bM.a q.bM.n q.bM.k q.bM.l
def ah.Ok.ag{O cs':cj}{x:ah}(h:ah.Ok O x)(a:∀p∈O.flatten,p∈cs'.flatten):ah.Ok cs' x:=⟨h.bM.ag a⟩
structure aA where
 aB:Int
 a:Int
 b:Int
 eS:Bool
 aS:Int
 bz:Int
 kW:Int
 kH:Int
 ad:Sl Int
 row:Sl Int
 dG:Sl Int
 shift:Int
 ed:Int
 x:Sl bL
 y:Sl bL
 cb:Int
 ops:Sl fJ
 aG:Int
def aL(x:aA):fa:=[I x.aB,I x.a,I x.b,.bool x.eS,I x.aS,I x.bz,I x.kW,I x.kH,.slice x.ad.a x.ad.n x.ad.k,.slice x.row.a x.row.n x.row.k,.slice x.dG.a x.dG.n x.dG.k,I x.shift,I x.ed,.slice x.x.a x.x.n x.x.k,.slice x.y.a x.y.n x.y.k,I x.cb,.slice x.ops.a x.ops.n x.ops.k,I x.aG]
structure bc where
 aB:Int
 a:Int
 b:Int
 eS:Bool
 aS:Int
 bz:Int
 kW:Int
 kH:Int
 ad:aR
 row:aR
 dG:aR
 shift:Int
 ed:Int
 x:List dW
 y:List dW
 cb:Int
 ops:List fJ
 aG:Int
 deriving DecidableEq
def aA.v(x:aA):bc:=⟨x.aB,x.a,x.b,x.eS,x.aS,x.bz,x.kW,x.kH,x.ad.l,x.row.l,x.dG.l,x.shift,x.ed,x.x.l.map bL.v,x.y.l.map bL.v,x.cb,x.ops.l,x.aG⟩
def sv{P:Prop}(h:P:=by simp only[aA.v];omega):P:=h
structure aA.Ok(O:cj)(q:aA):Prop where
 ad:bl ca 1 O q.ad.a q.ad.n q.ad.k q.ad.l
 row:bl ca 1 O q.row.a q.row.n q.row.k q.row.l
 dG:bl ca 1 O q.dG.a q.dG.n q.dG.k q.dG.l
 x:bl ff 2 O q.x.a q.x.n q.x.k q.x.l
 xD:∀z∈q.x.l,bL.Ok O z
 y:bl ff 2 O q.y.a q.y.n q.y.k q.y.l
 yD:∀z∈q.y.l,bL.Ok O z
 ops:bl gA 2 O q.ops.a q.ops.n q.ops.k q.ops.l
def aA.Ok.ag{O cs':cj}{x:aA}(h:aA.Ok O x)(a:∀p∈O.flatten,p∈cs'.flatten):aA.Ok cs' x:=⟨h.ad.ag a,h.row.ag a,h.dG.ag a,h.x.ag a,λy hy=>(h.xD y hy).ag a,h.y.ag a,λy hy=>(h.yD y hy).ag a,h.ops.ag a⟩
abbrev fX:aA:=⟨0,0,0,false,0,0,0,0,⟨none,0,0,[]⟩,⟨none,0,0,[]⟩,⟨none,0,0,[]⟩,0,0,⟨none,0,0,[]⟩,⟨none,0,0,[]⟩,0,⟨none,0,0,[]⟩,0⟩
structure eK where
 aa:Sl ah
 ae:Sl aA
 aK:Sl Int
 ba:Int
def bG(x:eK):fa:=[.slice x.aa.a x.aa.n x.aa.k,.slice x.ae.a x.ae.n x.ae.k,.slice x.aK.a x.aK.n x.aK.k,I x.ba]
structure et where
 aa:List aM
 ae:List bc
 aK:aR
 ba:Int
 deriving DecidableEq
def eK.v(x:eK):et:=⟨x.aa.l.map ah.v,x.ae.l.map aA.v,x.aK.l,x.ba⟩
structure eK.Ok(O:cj)(q:eK):Prop where
 aa:bl au 4 O q.aa.a q.aa.n q.aa.k q.aa.l
 gf:∀z∈q.aa.l,ah.Ok O z
 ae:bl aL 18 O q.ae.a q.ae.n q.ae.k q.ae.l
 dC:∀z∈q.ae.l,aA.Ok O z
 aK:bl ca 1 O q.aK.a q.aK.n q.aK.k q.aK.l
def eK.Ok.ag{O cs':cj}{x:eK}(h:eK.Ok O x)(a:∀p∈O.flatten,p∈cs'.flatten):eK.Ok cs' x:=⟨h.aa.ag a,λy hy=>(h.gf y hy).ag a,h.ae.ag a,λy hy=>(h.dC y hy).ag a,h.aK.ag a⟩
structure aY where
 w:Int
 h:Int
 aG:Int
 deriving DecidableEq
def gN(x:aY):fa:=[I x.w,I x.h,I x.aG]
structure Ref where
 bO:Int
 bE:Int
 deriving DecidableEq
def cz(x:Ref):fa:=[I x.bO,I x.bE]
structure Task where
 cP:Int
 part:Int
 ck:Int
 cl:Int
 cu:Int
 cr:Int
 aX:Sl Int
 rows:Int
 dk:Int
def cw(x:Task):fa:=[I x.cP,I x.part,I x.ck,I x.cl,I x.cu,I x.cr,.slice x.aX.a x.aX.n x.aX.k,I x.rows,I x.dk]
structure eL where
 cP:Int
 part:Int
 ck:Int
 cl:Int
 cu:Int
 cr:Int
 aX:aR
 rows:Int
 dk:Int
 deriving DecidableEq
def Task.v(x:Task):eL:=⟨x.cP,x.part,x.ck,x.cl,x.cu,x.cr,x.aX.l,x.rows,x.dk⟩
structure Task.Ok(O:cj)(q:Task):Prop where
 aX:bl ca 1 O q.aX.a q.aX.n q.aX.k q.aX.l
def Task.Ok.ag{O cs':cj}{x:Task}(h:Task.Ok O x)(a:∀p∈O.flatten,p∈cs'.flatten):Task.Ok cs' x:=⟨h.aX.ag a⟩
def AT(n:Int):aR:=[n%18446744073709551616/72057594037927936%256,n%18446744073709551616/281474976710656%256,n%18446744073709551616/1099511627776%256,n%18446744073709551616/4294967296%256,n%18446744073709551616/16777216%256,n%18446744073709551616/65536%256,n%18446744073709551616/256%256,n%18446744073709551616/1%256]
theorem Dv(n:Int):(AT n).length=8:=rfl
def KR(n:Int):Bytes (AT n):=by
 intro b a;simp only[AT,acw,acW,adO] at a;rcases a with rfl|rfl|rfl|rfl|rfl|rfl|rfl|rfl<;>omega
def bo(l:aR):aR:=l.flatMap AT
theorem eZ(a b:aR):bo (a++b)=bo a++bo b:=by simp[bo]
def gm(a:Int)(b:aR):bo (a::b)=AT a++bo b:=by simp[bo]
theorem iS(l:aR):(bo l).length=8*l.length:=by
 induction l with
 |nil=>rfl
 |cons x l a=>rw[gm];simp[a,Dv];omega
def Ap(l:aR):Bytes (bo l):=by
 intro b a;let⟨n,_,h⟩:=aeD.1 a;exact KR n b h
def Bytes.XB{a b:aR}(ha:Bytes a)(c:Bytes b):Bytes (a++b):=by
 intro x hx;rcases acn.1 hx with h|h
 ·exact ha x h
 ·exact c x h
def fE(l:aR):aR:=(l.length:Int)::l
def jV(t:dW):aR:=t.first::fE t.ad
def jU(l:List dW):aR:=(l.length:Int)::l.flatMap jV
def tP(p:fJ):aR:=[p.code,p.arg]
def DP(l:List fJ):aR:=(l.length:Int)::l.flatMap tP
def mO(b:Bool):Int:=if b then 1 else 0
def eF(s:bc):aR:=
 [s.aB,s.a,s.b,mO s.eS,s.aS,s.bz,s.kW,s.kH]++(fE s.ad++(fE s.row++(fE s.dG++([s.shift,s.ed]++(jU s.x++(jU s.y++([s.cb]++(DP s.ops++[s.aG]))))))))
def dQ(p:aM):aR:=[p.w,p.h,p.aG]++fE p.bM
def jx(j:et):aR:=[j.ba,(j.aa.length:Int)]++(j.aa.flatMap dQ++(((j.ae.length:Int)::j.ae.flatMap eF)++fE j.aK))
structure Wr where
 bs:aR
 full:Bool
def Wr.one(s:Wr)(n:Int):Wr:=if s.full=true\/262144<s.bs.length+8 then⟨s.bs,true⟩ else⟨s.bs++AT n,false⟩
def Wr.put(s:Wr)(l:aR):Wr:=l.foldl Wr.one s
def uK(l:aR):l.flatMap (λx=>[x])=l:=by induction l with|nil=>rfl|cons x l a=>simp
end
section
variable{W w:World}{H:af}{F:cj}
variable{i:Nat}
def jL{α:Type}{f:α->aR}{l:List α}{x:α}(hx:l[i]?=some x):(l.take (i+1)).flatMap f=(l.take i).flatMap f++f x:=by
 exact Bf
def uW{α:Type}{f:α->aR}{l:List α}{x:α}(hx:l[i]?=some x):((l.take i).flatMap f).length+(f x).length<=(l.flatMap f).length:=by
 let h:=acd List.length (jL (f:=f) hx);let a:l.flatMap f=(l.take (i+1)).flatMap f++(l.drop (i+1)).flatMap f:=by rw[<-ad5,ads]
 simp_all
def nC{α:Type}{f:α->aR}{l:List α}(hi:i=l.length):(l.take i).flatMap f=l.flatMap f:=by simp_all
def yE(bs L:aR):Prop:=bs=[84,70,1]++bo L\/(262144<bs.length/\bs.length<=3+8*L.length)
def yE.XB{bs L:aR}(h:yE bs L)(M:aR):yE (bs++bo M) (L++M):=by
 rcases h with h|⟨h1,a⟩
 ·left;rw[h,eZ];simp
 ·right;simp only[acm,iS];omega
def yE.more{bs L:aR}(h:262144<bs.length)(a:bs.length<=3+8*L.length):yE bs L:=.inr ⟨h,a⟩
def yE.le{bs L:aR}(h:yE bs L):bs.length<=3+8*L.length:=by
 rcases h with h|h
 ·rw[h];simp[iS];omega
 omega
def F6(t:bL):(jV t.v).length=2+t.ad.l.length:=by simp[jV,fE,bL.v];omega
def yb(t:ah):(dQ t.v).length=4+t.bM.l.length:=by grind[dQ,fE,ah.v]
theorem D8(l:List fJ):(l.flatMap tP).length=2*l.length:=by
 induction l with
 |nil=>rfl
 |cons x l a=>simp[tP,a];omega
theorem zl(q:aA):(eF q.v).length=16+q.ad.l.length+q.row.l.length+q.dG.l.length+(jU (q.x.l.map bL.v)).length+(jU (q.y.l.map bL.v)).length+(q.ops.l.flatMap tP).length:=by
 simp_all[eF,fE,DP,aA.v];omega
def FK(j:eK):(jx j.v).length=4+(j.aa.l.flatMap (λx=>dQ x.v)).length+(j.ae.l.flatMap (λx=>eF x.v)).length+j.aK.l.length:=by
 grind[jx,fE,eK.v,List.length_append,List.length_cons,List.length_nil,List.flatMap_map]
def mQ{α:Type}{f:α->aR}(l:List α)(i:Nat):((l.take i).flatMap f).length<=(l.flatMap f).length:=by
 grind[List.take_append_drop,List.length_append]
def kB(x:Int):bo [x]=AT x:=by rfl
variable{n k:Nat}
def fC{F:cj}{a:cf}{c:af}{bs:aR}(g:aF jj 5 1 a n k bs c)(x:Int)(b:n+8<=1099511627776)(h:X W w (c::H::F)):
 Calls prog 74 #[.slice a n k,I x] w λe f=>∃(a':cf) (b k':Nat) (d:af),e=.returned (.slice a' b k')/\b=n+8/\aF jj 5 1 a' b k' (bs++bo ([x])) d/\X W f (d::H::F):=by
 let b:=g.len;refine nH 22 func74 Z<|sR<|bf<|zS<|bf<|bh (.int .u64 (x%18446744073709551616)) Z Z (fo (k:=.i64) (a:=x) underlying3 underlying238 (wrap_u64 _) Z kr)<|bf<|zQ<|bf<|nT<|cW<|sS 9<|dd<|cO<|sR<|cG<|nT<|nh<|kT<|cO<|cW<|rE<|gw<|bh (.int .u64 56) Z Z (fo (k:=.i64) (a:=56) underlying3 underlying239 (by decide) Z kr)<|bh (.int .u64 ((x%18446744073709551616)/72057594037927936)) Z Z (uX .u64 .u64 (x%18446744073709551616) 56 72057594037927936 Z kr kr (by decide) (by decide))<|bh (.int .u8 (((x%18446744073709551616)/72057594037927936)%256)) Z Z (fo (k:=.u64) (a:=((x%18446744073709551616)/72057594037927936)) underlying238 underlying5 (wrap_u8 _) Z kr)<|ec h #[.int .u8 (((x%18446744073709551616)/72057594037927936)%256)] 5 λ_ _ b=>dM (nb:=1) b g 1 (bl.dO (enc:=jj) (sz:=1) (xs:=[(((x%18446744073709551616)/72057594037927936)%256)]) fR 1 0 Z Z Z Y) underlying36 (i:=Tryz.t5) kr fR λ_ _ _ _ d b=>bf<|nB<|rE<|gw<|nT<|dd<|cO<|sR<|cG<|nT<|nh<|kT<|cO<|cW<|rE<|gw ?_;refine bh (.int .u64 48) Z Z (fo (k:=.i64) (a:=48) underlying3 underlying239 (by decide) Z kr)<|bh (.int .u64 ((x%18446744073709551616)/281474976710656)) Z Z (uX .u64 .u64 (x%18446744073709551616) 48 281474976710656 Z kr kr (by decide) (by decide))<|bh (.int .u8 (((x%18446744073709551616)/281474976710656)%256)) Z Z (fo (k:=.u64) (a:=((x%18446744073709551616)/281474976710656)) underlying238 underlying5 (wrap_u8 _) Z kr)<|ec b #[.int .u8 (((x%18446744073709551616)/281474976710656)%256)] 5 λ_ _ b=>dM (nb:=1) b d 2 (bl.dO (enc:=jj) (sz:=1) (xs:=[(((x%18446744073709551616)/281474976710656)%256)]) fR 1 0 Z Z Z Y) underlying36 (i:=Tryz.t5) kr fR λ_ _ _ _ d b=>bf<|nB<|rE<|gw<|nT<|dd<|cO<|sR<|cG<|nT<|nh<|kT<|cO<|cW<|rE<|gw<|bh (.int .u64 40) Z Z (fo (k:=.i64) (a:=40) underlying3 underlying239 (by decide) Z kr)<|bh (.int .u64 ((x%18446744073709551616)/1099511627776)) Z Z (uX .u64 .u64 (x%18446744073709551616) 40 1099511627776 Z kr kr (by decide) (by decide))<|bh (.int .u8 (((x%18446744073709551616)/1099511627776)%256)) Z Z (fo (k:=.u64) (a:=((x%18446744073709551616)/1099511627776)) underlying238 underlying5 (wrap_u8 _) Z kr)<|ec b #[.int .u8 (((x%18446744073709551616)/1099511627776)%256)] 5 λ_ _ h0=>dM (nb:=1) h0 d 3 (bl.dO (enc:=jj) (sz:=1) (xs:=[(((x%18446744073709551616)/1099511627776)%256)]) fR 1 0 Z Z Z Y) underlying36 (i:=Tryz.t5) kr fR λ_ _ _ _ d b=>bf<|nB<|rE<|gw<|nT<|dd<|cO<|sR<|cG<|nT<|nh<|kT<|cO<|cW<|rE<|gw ?_;refine bh (.int .u64 32) Z Z (fo (k:=.i64) (a:=32) underlying3 underlying239 (by decide) Z kr)<|bh (.int .u64 ((x%18446744073709551616)/4294967296)) Z Z (uX .u64 .u64 (x%18446744073709551616) 32 4294967296 Z kr kr (by decide) (by decide))<|bh (.int .u8 (((x%18446744073709551616)/4294967296)%256)) Z Z (fo (k:=.u64) (a:=((x%18446744073709551616)/4294967296)) underlying238 underlying5 (wrap_u8 _) Z kr)<|ec b #[.int .u8 (((x%18446744073709551616)/4294967296)%256)] 5 λ_ _ b=>dM (nb:=1) b d 4 (bl.dO (enc:=jj) (sz:=1) (xs:=[(((x%18446744073709551616)/4294967296)%256)]) fR 1 0 Z Z Z Y) underlying36 (i:=Tryz.t5) kr fR λ_ _ _ _ d b=>bf<|nB<|rE<|gw<|nT<|dd<|cO<|sR<|cG<|nT<|nh<|kT<|cO<|cW<|rE<|gw<|bh (.int .u64 24) Z Z (fo (k:=.i64) (a:=24) underlying3 underlying239 (by decide) Z kr)<|bh (.int .u64 ((x%18446744073709551616)/16777216)) Z Z (uX .u64 .u64 (x%18446744073709551616) 24 16777216 Z kr kr (by decide) (by decide))<|bh (.int .u8 (((x%18446744073709551616)/16777216)%256)) Z Z (fo (k:=.u64) (a:=((x%18446744073709551616)/16777216)) underlying238 underlying5 (wrap_u8 _) Z kr)<|ec b #[.int .u8 (((x%18446744073709551616)/16777216)%256)] 5 λ_ _ b=>dM (nb:=1) b d 5 (bl.dO (enc:=jj) (sz:=1) (xs:=[(((x%18446744073709551616)/16777216)%256)]) fR 1 0 Z Z Z Y) underlying36 (i:=Tryz.t5) kr fR λ_ _ _ _ d b=>bf<|nB<|rE<|gw<|nT<|dd<|cO<|sR<|cG<|nT<|nh<|kT<|cO<|cW<|rE<|gw ?_;refine bh (.int .u64 16) Z Z (fo (k:=.i64) (a:=16) underlying3 underlying239 (by decide) Z kr)<|bh (.int .u64 ((x%18446744073709551616)/65536)) Z Z (uX .u64 .u64 (x%18446744073709551616) 16 65536 Z kr kr (by decide) (by decide))<|bh (.int .u8 (((x%18446744073709551616)/65536)%256)) Z Z (fo (k:=.u64) (a:=((x%18446744073709551616)/65536)) underlying238 underlying5 (wrap_u8 _) Z kr)<|ec b #[.int .u8 (((x%18446744073709551616)/65536)%256)] 5 λ_ _ b=>dM (nb:=1) b d 6 (bl.dO (enc:=jj) (sz:=1) (xs:=[(((x%18446744073709551616)/65536)%256)]) fR 1 0 Z Z Z Y) underlying36 (i:=Tryz.t5) kr fR λ_ _ _ _ d b=>bf<|nB<|rE<|gw<|nT<|dd<|cO<|sR<|cG<|nT<|nh<|kT<|cO<|cW<|rE<|gw<|bh (.int .u64 8) Z Z (fo (k:=.i64) (a:=8) underlying3 underlying239 (by decide) Z kr)<|bh (.int .u64 ((x%18446744073709551616)/256)) Z Z (uX .u64 .u64 (x%18446744073709551616) 8 256 Z kr kr (by decide) (by decide))<|bh (.int .u8 (((x%18446744073709551616)/256)%256)) Z Z (fo (k:=.u64) (a:=((x%18446744073709551616)/256)) underlying238 underlying5 (wrap_u8 _) Z kr)<|ec b #[.int .u8 (((x%18446744073709551616)/256)%256)] 5 λ_ _ b=>dM (nb:=1) b d 7 (bl.dO (enc:=jj) (sz:=1) (xs:=[(((x%18446744073709551616)/256)%256)]) fR 1 0 Z Z Z Y) underlying36 (i:=Tryz.t5) kr fR λ_ _ _ _ d b=>bf<|nB<|rE<|gw<|nT<|dd<|cO<|sR<|cG<|nT<|nh<|kT<|cO<|cW<|rE<|gw ?_;exact bh (.int .u64 0) Z Z (fo (k:=.i64) (a:=0) underlying3 underlying239 (by decide) Z kr)<|bh (.int .u64 ((x%18446744073709551616)/1)) Z Z (uX .u64 .u64 (x%18446744073709551616) 0 1 Z kr kr (by decide) (by decide))<|bh (.int .u8 (((x%18446744073709551616)/1)%256)) Z Z (fo (k:=.u64) (a:=((x%18446744073709551616)/1)) underlying238 underlying5 (wrap_u8 _) Z kr)<|ec b #[.int .u8 (((x%18446744073709551616)/1)%256)] 5 λ_ _ w0=>dM (nb:=1) w0 d 8 (bl.dO (enc:=jj) (sz:=1) (xs:=[(((x%18446744073709551616)/1)%256)]) fR 1 0 Z Z Z Y) underlying36 (i:=Tryz.t5) kr fR λb d _ _ f g=>bf<|nB<|rE<|gw<|nT<|dd<|cO<|sR<|cG<|nT<|B6<|ql<|xB<|tN<|sR<|cG<|zE<|fc [.slice b ((((((((n+1)+1)+1)+1)+1)+1)+1)+1) d]<|⟨b,_,_,_,rfl,rfl,(by let e:=f;rw[kB];simpa only[AT,acx,acP,acN] using e),(g.ap [0,0,0,0,0,0,0,0])⟩
def pn{F:cj}{a:cf}{c:af}{bs:aR}(hO:aF jj 5 1 a n k bs c)(la:cf)(ln lk:Nat)(l:aR)(hR:bl ca 1 [H] la ln lk l)(hb:n+8*(ln+1)<=1099511627776)(hS:X W w (c::H::F)):
 Calls prog 75 #[.slice a n k,.slice la ln lk] w λe w'=>∃(a':cf) (n' k':Nat) (c':af),e=.returned (.slice a' n' k')/\n'=n+8*(ln+1)/\aF jj 5 1 a' n' k' (bs++bo (fE l)) c'/\X W w' (c'::H::F):=by
 have K0:=hO.len;have L0:=hR.le;have I0:=hR.len;refine aq 23 func75 Z<|Q 10 ?_;have i0:=(hS.az [1,1]);refine cZ (fC hO (ln:Int) Y i0) ?_;rintro _ _⟨j0,f0,k0,l0,rfl,_,b0,m0⟩
 generalize n0:bs++bo ([(ln:Int)])=g0 at b0
 have z0:=b0.len;refine JO 10<|bF [1] (γ:=Nat×cf×Nat×Nat×af×aR) (λ⟨i,a',n',k',c',y0⟩ R=>⟨[(0,.slice a' n' k'),(5,I i)],c'::R,ln-i,i<=ln/\y0=g0++bo ((l.take i).flatMap (λx=>[x]))/\aF jj 5 1 a' n' k' y0 c'/\y0.length=n'/\n'=f0+8*((l.take i).flatMap (λx=>[x])).length⟩) (0,j0,f0,k0,l0,g0) ⟨m0,aeg _,by simp[bo],b0,b0.len,by simp⟩ ?_;rintro⟨i,a',n',k',c',y0⟩ V _⟨e0,hi,hp,D0,F0,E0⟩;refine Q 9<|CD ((i:Int)<ln) (λo0=>RC 12 [.slice a' n' k']<|(by have C0:=nC (f:=(λx=>[x])) (l:=l) (i:=i) Y;rw[C0] at hp E0;subst n0;have hM:y0=bs++bo (fE l):=(by rw[hp];rw[uK,<-I0];simp[fE,bo]);subst hM;have J0:n'=n+8*(ln+1):=(by rw[uK] at E0;omega);exact⟨_,_,_,_,rfl,J0,D0,e0⟩)) λo0=>Q 4 ?_;have M0:((l.take i).flatMap (λx=>[x])).length=i:=by rw[uK];simp;omega
 refine Q 4<|kQ hR i λa0 _ _ c0 p0=>?_;have A0:=uW (f:=(λx=>[x])) c0;have B0:[a0].length=1:=rfl;refine eB e0 (p0.up 1 Z) 0 (I a0) ?_;have q0:=(e0.az [1,1]);refine cZ (fC D0 a0 Y q0) ?_;rintro _ _⟨r0,s0,t0,u0,rfl,_,d0,v0⟩
 generalize w0:y0++bo ([a0])=h0 at d0
 have f1:=d0.len;refine JO 6<|aU (i:Int) 1<|bX 2 Z ?_;have x0:h0=y0++bo ((λx=>[x]) a0):=by subst w0;first|rfl|(simp only[kB,eZ,gm,jV,tP,dQ,fE,acx,acP,acN];done)|(simp[bo,jV,tP,dQ,fE,ah.v,bL.v];done)
 have G0:=acd List.length (jL (f:=(λx=>[x])) c0);rw[acm] at G0;have H0:=acd List.length x0;rw[acm,iS] at H0;exact⟨(i+1,r0,s0,t0,u0,h0),by dsimp only;omega,bR,v0,Y,by rw[x0,hp,jL c0,eZ,acx],d0,d0.len,Y⟩
def Gj{F:cj}{a:cf}{c:af}{bs:aR}(o:aF jj 5 1 a n k bs c)(g:cf)(m d:Nat)(l:List bL)(u:bl ff 2 [H] g m d l)(y:∀z∈l,bL.Ok [H] z)(b:n+8*(jU (l.map bL.v)).length<=1099511627776)(j:X W w (c::H::F)):
 Calls prog 140 #[.slice a n k,.slice g m d] w λe b=>∃(a':cf) (g k':Nat) (h:af),e=.returned (.slice a' g k')/\g=n+8*(jU (l.map bL.v)).length/\aF jj 5 1 a' g k' (bs++bo (jU (l.map bL.v))) h/\X W b (h::H::F):=by
 have b:=o.len;have b:=u.le;have v:=u.len;have b:(jU (l.map bL.v)).length=1+(l.flatMap (λx=>jV x.v)).length:=by simp[jU,aeZ];omega
 refine aq 30 func140 Z<|Q 10<|have b:=(j.az [1,1]);cZ (fC o (m:Int) Y b) ?_;rintro _ _⟨r,j,q,p,rfl,_,d,o⟩
 generalize t:bs++bo ([(m:Int)])=h0 at d
 have b:=d.len;refine JO 10<|bF [1] (γ:=Nat×cf×Nat×Nat×af×aR) (λ⟨i,a',g,k',h,s⟩ R=>⟨[(0,.slice a' g k'),(5,I i)],h::R,m-i,i<=m/\s=h0++bo ((l.take i).flatMap (λx=>jV x.v))/\aF jj 5 1 a' g k' s h/\s.length=g/\g=j+8*((l.take i).flatMap (λx=>jV x.v)).length⟩) (0,r,j,q,p,h0) ⟨o,aeg _,by simp[bo],d,d.len,by simp⟩ ?_;rintro⟨i,a',g,k',h,s⟩ V _⟨j,b,hp,q,b,d⟩;refine Q 9<|CD ((i:Int)<m) (λh=>RC 12 [.slice a' g k']<|(by have b:=nC (f:=(λx=>jV x.v)) (l:=l) (i:=i) Y;rw[b] at hp d;subst t;have hM:s=bs++bo (jU (l.map bL.v)):=(by rw[hp];rw[<-v];simp[jU,bo,aeZ]);subst hM;have b:g=n+8*(jU (l.map bL.v)).length:=(by omega);exact⟨_,_,_,_,rfl,b,q,j⟩)) λh=>Q 4 ?_;obtain⟨h,b,b,p,o,d⟩:=bl.eN u i;have b:=(y h (ab8 p)).ad.len;have b:=uW (f:=(λx=>jV x.v)) p;have b:(jV h.v).length=2+h.ad.l.length:=F6 h;refine bJ j [6,12] (fq 5 0 (o.up 1 Z)<|fq 11 1 (o.up 1 Z)<|fn) [0,1,2,3,4,7,8,9,10,5,11,6,12,13] λ_ b=>wV 3<|wI d<|wV 3<|wI d<|wV 1<|wL 0<|wL 1<|wO Z<|have d:=(b.az [1,1]);cZ (fC q h.first Y d) ?_;rintro _ _⟨m,w0,j,_,rfl,_,g,d⟩
 generalize u:s++bo ([h.first])=z0 at g
 have b:=g.len;refine er ⟨⟨dI,.inr ((o.up 1 Z).cell d (k:=1) Z),trivial⟩,?_⟩;refine wO Z<|have b:=(d.az [1,1]);cZ (pn g _ _ _ _ (y h (ab8 p)).ad Y b) ?_;rintro _ _⟨r,q,o,m,rfl,_,g,t⟩
 generalize d:z0++bo (fE h.ad.l)=l0 at g
 have b:=g.len;refine nA<|wV 1<|wN<|JX 4<|aU (i:Int) 1<|bX 2 Z ?_;have j:l0=s++bo ((λx=>jV x.v) h):=by subst d;subst u;first|rfl|(simp only[kB,eZ,gm,jV,tP,dQ,fE,acx,acP,acN];done)|(simp[bo,jV,tP,dQ,fE,ah.v,bL.v];done)
 have b:=acd List.length (jL (f:=(λx=>jV x.v)) p);rw[acm] at b;have b:=acd List.length j;rw[acm,iS] at b;exact⟨(i+1,r,q,o,m,l0),by dsimp only;omega,bR,t,Y,by rw[j,hp,jL p,eZ,acx],g,g.len,Y⟩
def Lq{F:cj}{a:cf}{c:af}{bs:aR}(m:aF jj 5 1 a n k bs c)(q:aA)(t:aA.Ok [H] q)(b:n+8*(eF q.v).length<=1099511627776)(j:X W w (c::H::F)):
 Calls prog 76 #[.slice a n k,.agg (aL q).toArray] w λe b=>∃(a':cf) (y k':Nat) (r:af),e=.returned (.slice a' y k')/\y=n+8*(eF q.v).length/\aF jj 5 1 a' y k' (bs++bo (eF q.v)) r/\X W b (r::H::F):=by
 have b:=m.len;have h:=t.ad.len;have b:=t.ad.le;have g:=t.row.len;have b:=t.row.le;have d:=t.dG.len;have b:=t.dG.le;have b:=t.x.ll;have b:=t.y.ll;have N:=t.ops.len;have b:=t.ops.le;have b:=zl q;rw[h,g,d] at b;have b:(q.ops.l.flatMap tP).length=2*q.ops.n:=by rw[<-N];exact D8 _
 refine nH 96 func76 Z<|sR<|eD j (aL q) λ_ _ d=>bf<|zS<|bf<|nT<|YI d 0 [0,3] (γ:=Int) (λp R=>⟨[(5,I p)],R,0,p=mO q.eS⟩) ?_ ?_
 ·exact sR<|bf<|sM d 0 3 (.bool q.eS)<|nT<|CB q.eS (λb=>kT<|⟨0,bR,d,by simp[mO,b]⟩) λb=>rE<|bf<|nT<|⟨1,bR,d,by simp[mO,b]⟩
 rintro p V _⟨b,T⟩;refine cO<|sR<|bf<|sM b 0 0 (I q.aB)<|bf<|sM b 0 1 (I q.a)<|bf<|sM b 0 2 (I q.b)<|gw<|sM b 0 4 (I q.aS)<|cG<|sM b 0 5 (I q.bz)<|bf<|sM b 0 6 (I q.kW)<|bf<|sM b 0 7 (I q.kH)<|ec b #[I q.aB,I q.a,I q.b,I p,I q.aS,I q.bz,I q.kW,I q.kH] 3 λo _ d=>cG<|nT<|cW<|sS 9<|dd<|sR<|bf<|nT<|cO<|nh<|kT<|cO<|cW<|sR<|bh (Pt o 0) Z Z (rf (a:=(At o 0)) (i:=0) (len:=8) (cap:=8) Z runUnderlying22 sizeOf3 kr kr ⟨_,rfl,fD _ 0 _,by decide,by decide⟩)<|sM d 0 0 (I q.aB)<|bf<|nT<|rE<|cG<|have b:=(d.az [0,2]);cZ (fC m q.aB Y b) ?_;rintro _ _⟨j,h,m,_,rfl,_,d,g⟩
 generalize S:bs++bo ([q.aB])=c2 at d
 have b:=d.len;refine bf<|nB<|rE<|cG<|nT<|dd<|sR<|bf<|nT<|cO<|nh<|kT<|cO<|cW<|sR<|bh (Pt o 1) Z Z (rf (a:=(At o 0)) (i:=1) (len:=8) (cap:=8) Z runUnderlying22 sizeOf3 kr kr ⟨_,rfl,fD _ 0 _,by decide,by decide⟩)<|sM g 1 1 (I q.a)<|bf<|nT<|rE<|cG<|have b:=(g.az [1,1]);cZ (fC d q.a Y b) ?_;rintro _ _⟨m,j,h,_,rfl,_,d,g⟩
 generalize Qz:c2++bo ([q.a])=i2 at d
 have b:=d.len;refine bf<|nB<|rE<|cG<|nT<|dd<|sR<|bf<|nT<|cO<|nh<|kT<|cO<|cW<|sR<|bh (Pt o 2) Z Z (rf (a:=(At o 0)) (i:=2) (len:=8) (cap:=8) Z runUnderlying22 sizeOf3 kr kr ⟨_,rfl,fD _ 0 _,by decide,by decide⟩)<|sM g 1 2 (I q.b)<|bf<|nT<|rE<|cG<|have b:=(g.az [1,1]);cZ (fC d q.b Y b) ?_;rintro _ _⟨m,j,h,_,rfl,_,d,g⟩
 generalize P:i2++bo ([q.b])=o2 at d
 have b:=d.len;refine bf<|nB<|rE<|cG<|nT<|dd<|sR<|bf<|nT<|cO<|nh<|kT<|cO<|cW<|sR<|bh (Pt o 3) Z Z (rf (a:=(At o 0)) (i:=3) (len:=8) (cap:=8) Z runUnderlying22 sizeOf3 kr kr ⟨_,rfl,fD _ 0 _,by decide,by decide⟩)<|sM g 1 3 (I p)<|bf<|nT<|rE<|cG<|have b:=(g.az [1,1]);cZ (fC d p Y b) ?_;rintro _ _⟨j,h,g,_,rfl,_,d,h1⟩
 generalize Oz:o2++bo ([p])=v2 at d
 have b:=d.len;refine bf<|nB<|rE<|cG<|nT<|dd<|sR<|bf<|nT<|cO<|nh<|kT<|cO<|cW<|sR<|bh (Pt o 4) Z Z (rf (a:=(At o 0)) (i:=4) (len:=8) (cap:=8) Z runUnderlying22 sizeOf3 kr kr ⟨_,rfl,fD _ 0 _,by decide,by decide⟩)<|sM h1 1 4 (I q.aS)<|bf<|nT<|rE<|cG<|have b:=(h1.az [1,1]);cZ (fC d q.aS Y b) ?_;rintro _ _⟨m,j,h,_,rfl,_,d,g⟩
 generalize M:v2++bo ([q.aS])=b3 at d
 have b:=d.len;refine bf<|nB<|rE<|cG<|nT<|dd<|sR<|bf<|nT<|cO<|nh<|kT<|cO<|cW<|sR<|bh (Pt o 5) Z Z (rf (a:=(At o 0)) (i:=5) (len:=8) (cap:=8) Z runUnderlying22 sizeOf3 kr kr ⟨_,rfl,fD _ 0 _,by decide,by decide⟩)<|sM g 1 5 (I q.bz)<|bf<|nT<|rE<|cG<|have b:=(g.az [1,1]);cZ (fC d q.bz Y b) ?_;rintro _ _⟨m,j,h,_,rfl,_,d,g⟩
 generalize L:b3++bo ([q.bz])=h3 at d
 have b:=d.len;refine bf<|nB<|rE<|cG<|nT<|dd<|sR<|bf<|nT<|cO<|nh<|kT<|cO<|cW<|sR<|bh (Pt o 6) Z Z (rf (a:=(At o 0)) (i:=6) (len:=8) (cap:=8) Z runUnderlying22 sizeOf3 kr kr ⟨_,rfl,fD _ 0 _,by decide,by decide⟩)<|sM g 1 6 (I q.kW)<|bf<|nT<|rE<|cG<|have b:=(g.az [1,1]);cZ (fC d q.kW Y b) ?_;rintro _ _⟨m,j,h,_,rfl,_,d,g⟩
 generalize K:h3++bo ([q.kW])=n3 at d
 have b:=d.len;refine bf<|nB<|rE<|cG<|nT<|dd<|sR<|bf<|nT<|cO<|nh<|kT<|cO<|cW<|sR<|bh (Pt o 7) Z Z (rf (a:=(At o 0)) (i:=7) (len:=8) (cap:=8) Z runUnderlying22 sizeOf3 kr kr ⟨_,rfl,fD _ 0 _,by decide,by decide⟩)<|sM g 1 7 (I q.kH)<|bf<|nT<|rE<|cG<|have b:=(g.az [1,1]);cZ (fC d q.kH Y b) ?_;rintro _ _⟨m,j,h,_,rfl,_,g,d⟩
 generalize J:n3++bo ([q.kH])=v3 at g
 have b:=g.len;refine bf<|nB<|rE<|cG<|nT<|dd<|sR<|bf<|nT<|cO<|B6<|ql<|xB<|tN<|cO<|bJ d [3,6,9] (fb 2 2 8 1<|fb 5 2 9 1<|fb 8 2 10 1<|fn) [0,1,4,7,2,5,8,3,6,9,10] λ_ b=>wV 4<|wL 0<|wL 1<|wL 2<|wO Z<|have d:=(b.az [3,1]);cZ (pn g _ _ _ _ t.ad Y d) ?_;rintro _ _⟨j,h,m,_,rfl,_,g,d⟩
 generalize G:v3++bo (fE q.ad.l)=c4 at g
 have b:=g.len;refine nZ d [3,3]<|wO Z<|have b:=(d.az [1,1]);cZ (pn g _ _ _ _ t.row Y b) ?_;rintro _ _⟨m,j,h,_,rfl,_,g,d⟩
 generalize E:c4++bo (fE q.row.l)=i4 at g
 have b:=g.len;refine nZ d [3]<|wO Z<|have b:=(d.az [1,1]);cZ (pn g _ _ _ _ t.dG Y b) ?_;rintro _ _⟨m,j,h,_,rfl,_,g,d⟩
 generalize D:i4++bo (fE q.dG.l)=p4 at g
 have b:=g.len;refine nA<|wV 1<|wN<|tN<|cO<|bJ d [3,6] (fb 2 3 11 1<|fb 5 3 12 1<|fn) [0,1,4,2,5,3,6,7] λ_ b=>wV 3<|wL 0<|wL 1<|wO Z<|have d:=(b.az [1,1]);cZ (fC g q.shift Y d) ?_;rintro _ _⟨m,j,h,_,rfl,_,g,d⟩
 generalize C:p4++bo ([q.shift])=w4 at g
 have b:=g.len;refine nZ d [3]<|wO Z<|have b:=(d.az [1,1]);cZ (fC g q.ed Y b) ?_;rintro _ _⟨h,g,j,_,rfl,_,w0,d⟩
 generalize B:w4++bo ([q.ed])=d5 at w0
 have b:=w0.len;refine nA<|wV 1<|wN<|tN<|cO<|bJ d [3,6,9] (fb 2 3 13 1<|fb 5 3 14 1<|fb 8 3 15 1<|fn) [0,1,4,7,2,5,8,3,6,9,10] λ_ b=>wV 4<|wL 0<|wL 1<|wL 2<|wO Z<|have d:=(b.az [1,1]);cZ (Gj w0 _ _ _ _ t.x t.xD Y d) ?_;rintro _ _⟨m,j,h,_,rfl,_,g,d⟩
 generalize A:d5++bo (jU (q.x.l.map bL.v))=k5 at g
 have b:=g.len;refine nZ d [3,3]<|wO Z<|have b:=(d.az [1,1]);cZ (Gj g _ _ _ _ t.y t.yD Y b) ?_;rintro _ _⟨m,j,h,_,rfl,_,g,d⟩
 generalize z:k5++bo (jU (q.y.l.map bL.v))=q5 at g
 have b:=g.len;refine nZ d [3]<|wO Z<|have b:=(d.az [1,1]);cZ (fC g q.cb Y b) ?_;rintro _ _⟨m,j,h,_,rfl,_,g,d⟩
 generalize x:q5++bo ([q.cb])=w5 at g
 have b:=g.len;refine nA<|wV 1<|wN<|tN<|sR<|cG<|sM d 3 16 (.slice q.ops.a q.ops.n q.ops.k)<|bf<|have b:=(d.az [1,1]);cZ (fC g (q.ops.n:Int) Y b) ?_;rintro _ _⟨m,g,j,o,rfl,_,d,h⟩
 generalize v:w5++bo ([(q.ops.n:Int)])=t1 at d
 have b:=d.len;refine bf<|zQ<|bf<|nT<|cW<|Vt [3] (γ:=Nat×cf×Nat×Nat×af×aR) (λ⟨i,a',y,k',r,u⟩ R=>⟨[(0,.slice a' y k'),(8,I i)],r::R,q.ops.n-i,i<=q.ops.n/\u=t1++bo ((q.ops.l.take i).flatMap tP)/\aF jj 5 1 a' y k' u r/\u.length=y/\y=g+8*((q.ops.l.take i).flatMap tP).length⟩) (0,m,g,j,o,t1) ⟨((h.az [3,1]).aj 3 Z),aeg _,by simp[bo],d,d.len,by simp⟩ ?_;rintro⟨i,a',y,k',r,u⟩ V _⟨p,b,hp,s,b,d⟩;refine cO<|sR<|cG<|sM p 1 16 (.slice q.ops.a q.ops.n q.ops.k)<|cG<|nT<|CD ((i:Int)<q.ops.n) (λr=>ql<|xB<|tN<|cO<|(by have b:=nC (f:=tP) (l:=q.ops.l) (i:=i) Y;rw[b] at hp d;refine rE<|cG<|sM p 1 17 (I q.aG) ?_;have b:=(p.az [1,1]);refine cZ (fC s q.aG Y b) ?_;rintro _ _⟨j,h,g,_,rfl,_,o,d⟩;generalize m:u++bo ([q.aG])=l6 at o;have b:=o.len;exact bf<|zE<|fc [.slice j h g]<|(by have g:=(d.aj 1 Z);have hM:l6=bs++bo (eF q.v):=(by subst T;subst m;rw[hp];subst v;subst x;subst z;subst A;subst B;subst C;subst D;subst E;subst G;subst J;subst K;subst L;subst M;subst Oz;subst P;subst Qz;subst S;simp[eF,aA.v,jU,fE,DP,eZ,gm,<-N,acx,bo]);have b:=o;rw[hM] at b;exact⟨_,_,_,_,rfl,Y,b,g⟩))) λr=>?_;refine kT<|cO<|cW ?_;obtain⟨g,b,b,v,o,d⟩:=bl.eN t.ops i;have b:=uW (f:=tP) v;have b:(tP g).length=2:=rfl;refine bJ p [7,14] (fb 2 1 16 1<|fq 6 0 (o.up 2 Z)<|fb 9 1 16 1<|fq 13 1 (o.up 2 Z)<|fn) [0,1,3,8,10,2,4,5,6,9,11,12,13,7,14,15] λ_ b=>wV 5<|wL 0<|wI d<|wV 1<|wL 1<|wL 2<|wI d<|wV 1<|wL 3<|wO Z<|have d:=(b.az [1,1]);cZ (fC s g.code Y d) ?_;rintro _ _⟨m,j,h,_,rfl,_,d,h0⟩
 generalize t:u++bo ([g.code])=t6 at d
 have b:=d.len;refine er ⟨⟨cI h0 1,dI,cI h0 1,.inr ((o.up 2 Z).cell h0 (k:=1) Z),trivial⟩,?_⟩;refine wO Z<|have b:=(h0.az [1,1]);cZ (fC d g.arg Y b) ?_;rintro _ _⟨s,r,p,o,rfl,_,h,m⟩
 generalize d:t6++bo ([g.arg])=w1 at h
 have b:=h.len;refine nZ m [1,1]<|wV 1<|wN<|bN<|tN<|rE<|bf<|aU (i:Int) 1<|bf<|nT ?_;have j:w1=u++bo (tP g):=by subst d;subst t;first|rfl|(simp only[kB,eZ,gm,jV,tP,dQ,fE,acx,acP,acN];done)|(simp[bo,jV,tP,dQ,fE,ah.v,bL.v];done)
 have R0:=acd List.length (jL (f:=tP) v);rw[acm] at R0;have b:=acd List.length j;rw[acm,iS] at b;exact⟨(i+1,s,r,p,o,w1),by dsimp only;omega,bR,m,Y,by rw[j,hp,jL v,eZ,acx],h,h.len,Y⟩
def pX(F:cj)(j:eK)(z:eK.Ok [H] j)(d:(jx j.v).length<=1000000000)(h:X W w (H::F)):
 Calls prog 41 #[.agg (bG j).toArray] w λe d=>(3+8*(jx j.v).length<=262144/\∃(a:cf) (n k:Nat) (c:af),e=.returned (.tuple #[.slice a n k,I 0])/\aF jj 5 1 a n k ([84,70,1]++bo (jx j.v)) c/\X W d (c::H::F))\/(262144<3+8*(jx j.v).length/\e=.returned (.tuple #[nS,I 5])/\X W d (H::F)):=by
 let B0:=z.aa.len;let d:=z.aa.le;let Xz:=z.ae.len;let d:=z.ae.le;let g:=z.aK.len;let d:=z.aK.le;let d:=FK j;rw[g] at d;refine aq 79 func41 Z<|Q 2<|eD h (bG j) λ_ _ d=>JO 6<|ec d #[.int .u8 84,.int .u8 70,.int .u8 1] 5 λg _ d=>GO d 2 [1]<|let l:=aF.dO (enc:=jj) (sz:=1) (b:=g) (c:=#[.int .u8 84,.int .u8 70,.int .u8 1]) (E:=5) (xs:=[84,70,1]) fR 3 Z Z Z Y;let h:=(d.az [1,1]);cZ (fC l j.ba Y h) ?_;rintro _ _⟨o,m,l,_,rfl,_,h,g⟩
 generalize p:([84,70,1])++bo ([j.ba])=q1 at h
 let d:=h.len;refine GO g 9 [1]<|let d:=(g.az [1,1]);cZ (fC h (j.aa.n:Int) Y d) ?_;rintro _ _⟨q,o,m,l,rfl,_,h0,h⟩
 generalize g:q1++bo ([(j.aa.n:Int)])=t0 at h0
 let d:=h0.len;refine VG 2 Z<|let d:yE t0 [j.ba,(j.aa.n:Int)]:=.inl (by subst g;subst p;simp[bo]);JX 1<|eQ h 1 [1] (γ:=cf×Nat×Nat×af×aR) (λ⟨M,C,L,Oz,K⟩ R=>⟨[(4,.slice M C L)],Oz::R,0,yE K ([j.ba,(j.aa.n:Int)]++j.aa.l.flatMap (λx=>dQ x.v))/\aF jj 5 1 M C L K Oz/\K.length=C/\C<=8000000003⟩) ?_ ?_
 ·refine Q 6<|bF [1] (γ:=Nat×cf×Nat×Nat×af×aR) (λ⟨i,B,v,A,G,u⟩ R=>⟨[(4,.slice B v A),(5,I i)],G::R,j.aa.n-i,i<=j.aa.n/\yE u ([j.ba,(j.aa.n:Int)]++(j.aa.l.take i).flatMap (λx=>dQ x.v))/\aF jj 5 1 B v A u G/\u.length=v⟩) (0,q,o,m,l,t0) ⟨h,aeg _,by simpa using d,h0,h0.len⟩<|λ⟨i,B,v,A,G,u⟩ V _⟨h,hi,hp,N,P⟩=>GC h 9 [1]<|sD 22 ((i:Int)<j.aa.n) (λd=>?_) (λd=>?_);rotate_left
  ·refine bX 11 Z ?_
   let D:yE u ([j.ba,(j.aa.n:Int)]++j.aa.l.flatMap (λx=>dQ x.v)):=by
    by_cases U:i=j.aa.n
    ·rwa [nC Y] at hp
    ·exact yE.more Y (adG hp.le (by simp only[acm];let:=mQ (f:=(λx=>dQ x.v)) j.aa.l i;omega))
   exact⟨(B,v,A,G,u),bR,h,D,N,P,by let h1:=D.le;simp only[acm,acu,acX] at h1;omega⟩
  refine JO 6<|cD ((v:Int)<=262144) (λd=>?_) (λd=>?_);rotate_left
  ·refine lq 4 Z ?_
   let D:yE u ([j.ba,(j.aa.n:Int)]++j.aa.l.flatMap (λx=>dQ x.v)):=by
    by_cases U:i=j.aa.n
    ·rwa [nC Y] at hp
    ·exact yE.more Y (adG hp.le (by simp only[acm];let:=mQ (f:=(λx=>dQ x.v)) j.aa.l i;omega))
   exact⟨(B,v,A,G,u),bR,h,D,N,P,by let h1:=D.le;simp only[acm,acu,acX] at h1;omega⟩
  refine GC h 9 [1]<|kQ z.aa i λp _ _ t g=>?_;let d:=(z.gf p (ab8 t)).bM.len;let K1:=uW (f:=(λx=>dQ x.v)) t;let d:=yb p;let T:=hp.le;simp only[acm,acu,acX] at T;refine lv h (g.up 2 Z) 0 (au p)<|aI h zeroValue103 λ_ _ d=>bP d 0 Z (au p) λ_ d=>JO 2<|bJ d [3,6,9,12] (fb 2 0 0 1<|fb 5 0 1 1<|fb 8 0 2 1<|fb 11 0 3 1<|fn) [0,1,4,7,10,2,5,8,11,3,6,9,12,13] λ_ d=>wV 5<|wL 0<|wL 1<|wL 2<|wL 3<|wO Z<|let g:=(d.az [0,1]);cZ (fC N p.w Y g) ?_;rintro _ _⟨o,m,l,_,rfl,_,h,g⟩
  generalize J:u++bo ([p.w])=j2 at h
  let d:=h.len;refine nZ g [1,1,1]<|wO Z<|let d:=(g.az [1,1]);cZ (fC h p.h Y d) ?_;rintro _ _⟨o,m,l,_,rfl,_,h,g⟩
  generalize y:j2++bo ([p.h])=q2 at h
  let d:=h.len;refine nZ g [1,1]<|wO Z<|let d:=(g.az [1,1]);cZ (fC h p.aG Y d) ?_;rintro _ _⟨m,l,h,_,rfl,_,g,w0⟩
  generalize s:q2++bo ([p.aG])=w2 at g
  let d:=g.len;refine nZ w0 [1]<|wO Z<|let d:=(w0.az [3,1]);cZ (pn g _ _ _ _ (z.gf p (ab8 t)).bM Y d) ?_;rintro _ _⟨o,m,r,q,rfl,_,l,g⟩
  generalize h:w2++bo (fE p.bM.l)=x0 at l
  let d:=l.len;refine nA<|wV 1<|wN<|JX 4<|aU (i:Int) 1<|bX 2 Z ?_;let d:=((g.az [3,1]).aj 3 Z);let S:x0=u++bo ((λx=>dQ x.v) p):=by subst h;subst s;subst y;subst J;first|rfl|(simp only[kB,eZ,gm,jV,tP,dQ,fE,acx,acP,acN];done)|(simp[bo,jV,tP,dQ,fE,ah.v,bL.v];done)
  let J:=hp.XB ((λx=>dQ x.v) p);rw[<-S,acx,<-jL (f:=(λx=>dQ x.v)) t] at J;exact⟨(i+1,o,m,r,q,x0),by dsimp only;omega,bR,d,Y,J,l,l.len⟩
 rintro⟨M,C,L,Oz,K⟩ V _⟨g,l,h,d,d⟩;refine GC g 6 [1]<|let d:=(g.az [1,1]);cZ (fC h (j.ae.n:Int) Y d) ?_;rintro _ _⟨Qz,Oz,M,L,rfl,_,y,C⟩
 generalize g:K++bo ([(j.ae.n:Int)])=a1 at y
 let d:=y.len;refine VG 2 Z<|let K:yE a1 (([j.ba,(j.aa.n:Int)]++j.aa.l.flatMap (λx=>dQ x.v))++[(j.ae.n:Int)]):=(by let e:=l.XB [(j.ae.n:Int)];subst g;exact e);JX 1<|eQ C 1 [1] (γ:=cf×Nat×Nat×af×aR) (λ⟨l,h,m,d,p⟩ R=>⟨[(4,.slice l h m)],d::R,0,yE p ((([j.ba,(j.aa.n:Int)]++j.aa.l.flatMap (λx=>dQ x.v))++[(j.ae.n:Int)])++j.ae.l.flatMap (λx=>eF x.v))/\aF jj 5 1 l h m p d/\p.length=h/\h<=8000000003⟩) ?_ ?_;rotate_left
 ·rintro⟨l,h,m,d,p⟩ V _⟨g,s,o,d,d⟩;refine GC g 5 [1]<|let d:=(g.az [2,1]);cZ (pn o _ _ _ _ z.aK Y d) ?_;rintro _ _⟨r,h,q,_,rfl,_,l,t⟩
  generalize o:p++bo (fE j.aK.l)=f1 at l
  let d:=l.len;refine JO 11<|cD ((h:Int)>262144) (λd=>RC 8 [nS,I 5]<|(by let g:yE f1 (jx j.v):=(by let e:=s.XB (fE j.aK.l);rw[show(((([j.ba,(j.aa.n:Int)]++j.aa.l.flatMap (λx=>dQ x.v))++[(j.ae.n:Int)])++j.ae.l.flatMap (λx=>eF x.v))++fE j.aK.l)=jx j.v from by simp only[jx,fE,eK.v,acf,aeZ,B0,Xz,acx,acP,acN]] at e;subst o;exact e);let m:=l.len;refine .inr ⟨by let:=g.le;omega,rfl,(t.ap [0,1])⟩)) λd=>RC 10 [.slice r h q,I 0] ?_;let g:yE f1 (jx j.v):=(by let e:=s.XB (fE j.aK.l);rw[show(((([j.ba,(j.aa.n:Int)]++j.aa.l.flatMap (λx=>dQ x.v))++[(j.ae.n:Int)])++j.ae.l.flatMap (λx=>eF x.v))++fE j.aK.l)=jx j.v from by simp only[jx,fE,eK.v,acf,aeZ,B0,Xz,acx,acP,acN]] at e;subst o;exact e);let m:=l.len;let h:=(t.aj 2 Z);rcases g with g|g
  ·exact(by let d:=acd List.length g;simp only[acm,iS,acu,acX] at d;let d:=l;rw[g] at d;exact .inl ⟨Y,_,_,_,_,rfl,d,h⟩)
  ·exact absurd g.1 Y
 refine Q 6<|bF [1] (γ:=Nat×cf×Nat×Nat×af×aR) (λ⟨i,B,v,A,G,u⟩ R=>⟨[(4,.slice B v A),(7,I i)],G::R,j.ae.n-i,i<=j.ae.n/\yE u ((([j.ba,(j.aa.n:Int)]++j.aa.l.flatMap (λx=>dQ x.v))++[(j.ae.n:Int)])++(j.ae.l.take i).flatMap (λx=>eF x.v))/\aF jj 5 1 B v A u G/\u.length=v⟩) (0,Qz,Oz,M,L,a1) ⟨C,aeg _,by simpa using K,y,y.len⟩<|λ⟨i,B,v,A,G,u⟩ V _⟨l,hi,hp,N,P⟩=>GC l 9 [1]<|sD 57 ((i:Int)<j.ae.n) (λd=>?_) (λd=>?_);rotate_left
 ·refine bX 11 Z ?_
  let D:yE u ((([j.ba,(j.aa.n:Int)]++j.aa.l.flatMap (λx=>dQ x.v))++[(j.ae.n:Int)])++j.ae.l.flatMap (λx=>eF x.v)):=by
   by_cases U:i=j.ae.n
   ·rwa [nC Y] at hp
   ·exact yE.more Y (adG hp.le (by simp only[acm];let:=mQ (f:=(λx=>eF x.v)) j.ae.l i;omega))
  exact⟨(B,v,A,G,u),bR,l,D,N,P,by let h1:=D.le;simp only[acm,acu,acX] at h1;omega⟩
 refine JO 6<|cD ((v:Int)<=262144) (λd=>?_) (λd=>?_);rotate_left
 ·refine lq 4 Z ?_
  let D:yE u ((([j.ba,(j.aa.n:Int)]++j.aa.l.flatMap (λx=>dQ x.v))++[(j.ae.n:Int)])++j.ae.l.flatMap (λx=>eF x.v)):=by
   by_cases U:i=j.ae.n
   ·rwa [nC Y] at hp
   ·exact yE.more Y (adG hp.le (by simp only[acm];let:=mQ (f:=(λx=>eF x.v)) j.ae.l i;omega))
  exact⟨(B,v,A,G,u),bR,l,D,N,P,by let h1:=D.le;simp only[acm,acu,acX] at h1;omega⟩
 refine GC l 9 [1]<|kQ z.ae i λg _ _ m h=>?_;let d:=(z.dC g (ab8 m)).ad.len;let d:=(z.dC g (ab8 m)).row.len;let d:=(z.dC g (ab8 m)).dG.len;let R0:=(z.dC g (ab8 m)).x.len;let d:=(z.dC g (ab8 m)).y.len;let d:=(z.dC g (ab8 m)).ops.len;let K1:=uW (f:=(λx=>eF x.v)) m;let T:=hp.le;simp only[acm,acu,acX] at T;refine lv l (h.up 2 Z) 0 (aL g)<|let d:=(l.az [2,1]);cZ (Lq N g (z.dC g (ab8 m)) Y d) ?_;rintro _ _⟨r,q,p,s,rfl,_,o,h⟩
 generalize l:u++bo (eF g.v)=g1 at o
 let d:=o.len;refine JO 6<|aU (i:Int) 1<|bX 2 Z ?_;let d:=(h.az [2,1]);let S:g1=u++bo ((λx=>eF x.v) g):=by subst l;first|rfl|(simp only[kB,eZ,gm,jV,tP,dQ,fE,acx,acP,acN];done)|(simp[bo,jV,tP,dQ,fE,ah.v,bL.v];done)
 let J:=hp.XB ((λx=>eF x.v) g);rw[<-S,acx,<-jL (f:=(λx=>eF x.v)) m] at J;exact⟨(i+1,r,q,p,s,g1),by dsimp only;omega,bR,d,Y,J,o,o.len⟩
end
section
variable{W w:World}{H:af}{F:cj}
def iR(x:Int):Prop:=-9223372036854775808<=x/\x<=9223372036854775807
structure eA{α:Type}(enc:α->aR)(wf:α->Prop)(r0:aR)(b0:Bool)(v:α)(r1:aR)(b1:Bool):Prop where
 snd:b1=false->b0=false/\wf v/\r0=bo (enc v)++r1
 cmp:b0=false->∀v0 r,wf v0->r0=bo (enc v0)++r->b1=false
 len:r1.length<=r0.length
 CV:Bytes r0->Bytes r1
def Pf{α:Type}(enc:α->aR)(wf:α->Prop):Prop:=∀v v' r r',wf v->wf v'->bo (enc v)++r=bo (enc v')++r'->v=v'/\r=r'
theorem SV{x y:Int}(hx:iR x)(hy:iR y)(h:AT x=AT y):x=y:=by
 grind[AT,iR]
theorem vD{x y:Int}{r a:aR}(hx:iR x)(hy:iR y)(h:AT x++r=AT y++a):x=y/\r=a:=by
 grind[List.append_inj,Dv,SV]
def gR(x:Int):aR:=[x]
theorem iU(x:Int):bo (gR x)=AT x:=by rfl
def qx:Pf gR iR:=by
 intro v a r a h a e
 grind[iU,vD]
def xd{α β:Type}(f:α->aR)(g:β->aR)(p:α×β):aR:=f p.1++g p.2
def wfP{α β:Type}(f:α->Prop)(g:β->Prop)(p:α×β):Prop:=f p.1/\g p.2
def Pf.pair{α β:Type}{f:α->List Int}{g:β->List Int}{wf:α->Prop}{wg:β->Prop}(hf:Pf f wf)(hg:Pf g wg):Pf (xd f g) (wfP wf wg):=by
 intro⟨a,b⟩ ⟨a',b'⟩ r r' h h' e;simp only[xd,eZ,acx] at e;obtain⟨rfl,e2⟩:=hf _ _ _ _ h.1 h'.1 e;obtain⟨rfl,e3⟩:=hg _ _ _ _ h.2 h'.2 e2
 simp_all
variable{k:Bool}
def eA.pair{α c:Type}{f:α->aR}{g:c->aR}{j:α->Prop}{wg:c->Prop}{r0 i m:aR}{d l:Bool}{a:α}{b:c}(hf:Pf f j)(hA:eA f j r0 k a i d)(n:eA g wg i d b m l):
 eA (xd f g) (wfP j wg) r0 k (a,b) m l:=by
 refine⟨λh=>?_,λh j r hw he=>?_,adG n.len hA.len,λh=>n.CV (hA.CV h)⟩
 ·exact(by let⟨h1,hw,e⟩:=n.snd h;let⟨c,d,i⟩:=hA.snd h1;exact⟨c,⟨d,hw⟩,by grind[xd,eZ,List.append_assoc]⟩)
 ·exact(by simp only[xd,eZ,acx] at he;let h1:=hA.cmp h j.1 _ hw.1 he;let⟨_,d,i⟩:=hA.snd h1;rw[he] at i;let⟨_,c⟩:=hf _ _ _ _ hw.1 d i;exact n.cmp h1 j.2 r hw.2 c.symm)
def eA.map{α c:Type}{f:α->aR}{g:c->aR}{i:α->Prop}{wg:c->Prop}{r0 l:aR}{j:Bool}{a:α}(d:α->c)(hA:eA f i r0 j a l k)(he:∀a,i a->g (d a)=f a)(hw:∀a,i a->wg (d a))(m:∀b,wg b->∃a,i a/\d a=b):
 eA g wg r0 j (d a) l k:=by
 refine⟨λh=>?_,λh c r d e=>?_,hA.len,hA.CV⟩
 ·exact(by obtain⟨h1,c,c⟩:=hA.snd h;simp_all)
 ·exact(by obtain⟨c,h1,rfl⟩:=m _ d;exact hA.cmp h c r h1 dV)
def Pf.map{α c:Type}{f:α->aR}{g:c->aR}{d:α->Prop}{wg:c->Prop}(i:α->c)(hf:Pf f d)(he:∀a,d a->g (i a)=f a)(j:∀b,wg b->∃a,d a/\i a=b):Pf g wg:=by
 intro v c r c h i e;obtain⟨a,ha,rfl⟩:=j _ h;obtain⟨c,d,rfl⟩:=j _ i;rw[he _ ha,he _ d] at e;obtain⟨rfl,c⟩:=hf _ _ _ _ ha d e
 simp_all
def DI{α:Type}(wf:α->Prop)(i:Nat)(l:List α):Prop:=l.length=i/\∀x∈l,wf x
def nL{α:Type}(f:α->aR)(l:List α):aR:=l.flatMap f
def Pf.TI{α:Type}{f:α->aR}{a:α->Prop}(hf:Pf f a)(n:Nat):Pf (nL f) (DI a n):=by
 induction n with
 |zero=>
  intro v c r g h b e;have h1:=acZ h.1;have a:=acZ b.1;subst h1;subst a;exact⟨rfl,by simp_all⟩
 |succ n i=>
  intro v c r g h b e;cases v with
  |nil=>have:=h.1;simp at this
  |cons x v=>
   cases c with
   |nil=>have:=b.1;simp at this
   |cons a c=>
    simp only[nL,ac8,eZ,acx] at e;obtain⟨rfl,d⟩:=hf _ _ _ _ (h.2 x (by simp)) (b.2 a (by simp)) e;obtain⟨rfl,a⟩:=i v c r g ⟨by have:=h.1;simp_all,λy hy=>h.2 y (by simp[hy])⟩ ⟨by have:=b.1;simp_all,λy hy=>b.2 y (by simp[hy])⟩ d;exact⟨rfl,a⟩
def eA.none{α:Type}{f:α->aR}{a:α->Prop}(r:aR)(b:Bool):eA (nL f) (DI a 0) r b [] r b:=
 ⟨λh=>⟨h,⟨rfl,λ_ hx=>by cases hx⟩,rfl⟩,λh _ _ _ _=>h,acS _,λh=>h⟩
variable{e b:Bool}
def eA.snoc{α:Type}{f:α->aR}{c:α->Prop}{i:Nat}{r0 d m:aR}{l:List α}{x:α}(hf:Pf f c)(hA:eA (nL f) (DI c i) r0 e l d b)(j:eA f c d b x m k):
 eA (nL f) (DI c (i+1)) r0 e (l++[x]) m k:=by
 refine(eA.pair (hf.TI i) hA j).map (g:=nL f) (wg:=DI c (i+1)) (λp=>p.1++[p.2]) (λa _=>by simp[nL,xd]) (λa ha=>?_) (λl c=>?_)
 ·refine⟨by simp[ha.1.1],λy hy=>?_⟩;rcases acn.1 hy with h|h
  ·exact ha.1.2 y h
  ·simp at h;subst h;exact ha.2
 ·exact(by have b:l≠[]:=(by intro h;subst h;have:=c.1;simp_all);refine⟨(l.dropLast,l.getLast b),⟨⟨by simp[c.1],λy hy=>c.2 y (List.dropLast_subset l hy)⟩,c.2 _ (List.getLast_mem b)⟩,List.dropLast_concat_getLast b⟩)
variable{a:Bool}
def eA.stop{α:Type}{f:α->aR}{c:α->Prop}{i n:Nat}{r0 b:aR}{l:List α}(hA:eA (nL f) (DI c i) r0 a l b true)(hi:i<=n)(v:List α):eA (nL f) (DI c n) r0 a v b true:=by
 exact⟨(λh=>nomatch h),(λh a r hw he=>(hA.cmp h (a.take i) (bo (nL f (a.drop i))++r) ⟨by simp[hw.1];omega,λx hx=>hw.2 x (acL hx)⟩<|(by grind[List.append_assoc,eZ,nL,List.take_append_drop]))),hA.len,hA.CV⟩
def eA.dead{α:Type}{f:α->aR}{a:α->Prop}(r:aR)(v:α):eA f a r true v r true:=
 ⟨(λh=>nomatch h),(λh=>nomatch h),acS _,λh=>h⟩
def eA.any{α:Type}{f:α->aR}{b:α->Prop}{r0 c:aR}{v:α}(h:eA f b r0 a v c true)(v':α):eA f b r0 a v' c true:=
 ⟨(λh=>nomatch h),h.cmp,h.len,h.CV⟩
structure wZ(size:Nat)(r0:aR)(b0:Bool)(n:Int)(r1:aR)(b1:Bool):Prop where
 snd:b1=false->b0=false/\r0=AT n++r1
 cmp:b0=false->∀(n0:Nat) r,iR n0->r0=AT n0++r->n0*(8*size)<=r.length->b1=false
 len:r1.length<=r0.length
 CV:Bytes r0->Bytes r1
 xI:0<=n/\8*n<=r1.length/\iR n
def lu{α:Type}(f:α->aR)(l:List α):aR:=(l.length:Int)::l.flatMap f
def tb{α:Type}(wf:α->Prop)(l:List α):Prop:=iR l.length/\∀x∈l,wf x
def Pf.list{α:Type}{f:α->aR}{a:α->Prop}(hf:Pf f a):Pf (lu f) (tb a):=by
 intro v a r a h b e;simp only[lu,gm,acx] at e;obtain⟨a,a⟩:=vD h.1 b.1 e;exact hf.TI v.length _ _ _ _ ⟨rfl,h.2⟩ ⟨by omega,b.2⟩ a
def SI{α:Type}{f:α->aR}{size:Nat}(b:∀x,size<=(f x).length)(l:List α):l.length*size<=(l.flatMap f).length:=by
 induction l with
 |nil=>simp
 |cons x l a=>let:=b x;simp only[ac8,acm,acu,ac1,adi];omega
variable{c:Bool}{n:Int}
def eA.list{α:Type}{f:α->aR}{j:α->Prop}{size:Nat}{r0 b i:aR}{d:Bool}{l:List α}(k:∀x,size<=(f x).length)(g:wZ size r0 c n b a)(hA:eA (nL f) (DI j n.toNat) b a l i d):
 eA (lu f) (tb j) r0 c l i d:=by
 refine⟨λh=>?_,λh i r hw he=>?_,adG hA.len g.len,λh=>hA.CV (g.CV h)⟩
 ·exact(by obtain⟨h1,⟨a,c⟩,e⟩:=hA.snd h;obtain⟨b,d⟩:=g.snd h1;have a:(l.length:Int)=n:=(by have:=g.xI;omega);exact⟨b,⟨by rw[a];exact g.xI.2.2,c⟩,(by rw[lu,gm,a,acx,d,e];rfl)⟩)
 ·simp only[lu,gm,acx] at he;have a:=SI k i
  have h1:=g.cmp h i.length _ hw.1 he (by
   grind[List.length_append,iS,Nat.mul_left_comm])
  obtain⟨_,d⟩:=g.snd h1;rw[he] at d;obtain⟨a,a⟩:=vD hw.1 g.xI.2.2 d;exact hA.cmp h1 i r ⟨Y,hw.2⟩ a.symm
def YO{l:aR}{q p o n m k j i:Int}(h0:l[0]?=some q)(h1:l[1]?=some p)(w:l[2]?=some o)(v:l[3]?=some n)(u:l[4]?=some m)(t:l[5]?=some k)(s:l[6]?=some j)(r:l[7]?=some i):
 l=[q,p,o,n,m,k,j,i]++l.drop 8:=by
 match l with
 |[]=>simp at h0
 |[_]=>simp at h1
 |[_,_]=>simp at w
 |[_,_,_]=>simp at v
 |[_,_,_,_]=>simp at u
 |[_,_,_,_,_]=>simp at t
 |[_,_,_,_,_,_]=>simp at s
 |[_,_,_,_,_,_,_]=>simp at r
 |a::b::c::d::e::f::g::h::l=>simp at h0 h1 w v u t s r;simp[*]
def abc{i h g f e d c b:Int}(h0:0<=i/\i<256)(h1:0<=h/\h<256)(a:0<=g/\g<256)(a:0<=f/\f<256)(a:0<=e/\e<256)(a:0<=d/\d<256)(a:0<=c/\c<256)(a:0<=b/\b<256)(E:Int)
 (a:E=i*72057594037927936+h*281474976710656+g*1099511627776+f*4294967296+e*16777216+d*65536+c*256+b):AT (IntKind.i64.wrap E)=[i,h,g,f,e,d,c,b]/\iR (IntKind.i64.wrap E):=by
 grind[IntKind.wrap,IntKind.bits,IntKind.signed,iR,AT]
def wZ.bad{size:Nat}{r c:aR}{v:Int}(f:eA gR iR r b v c a)(h:v<0\/(c.length:Int)<v*((8*size:Nat):Int)):wZ size r b 0 c true:=by
 refine⟨(λh=>nomatch h),(λe d c hw he a=>?_),f.len,f.CV,⟨by omega,by omega,by unfold iR;omega⟩⟩;let h1:=f.cmp e d c hw Nn;let⟨_,c,a⟩:=f.snd h1;rw[iU,he] at a;obtain⟨rfl,rfl⟩:=vD hw c a;omega
def wZ.Wy{size:Nat}{r a:aR}{v:Int}(d:eA gR iR r b v a c)(hw:iR v)(h0:0<=v)(i:8*v<=a.length):wZ size r b v a c:=by
 refine⟨λh=>?_,λg f c hw he a=>?_,d.len,d.CV,⟨h0,i,hw⟩⟩
 ·exact(by let⟨h1,_,e⟩:=d.snd h;grind[iU])
 ·exact d.cmp g f c hw Nn
def eA.fail{r:aR}(v:Int)(h:b=true\/r.length<8):eA gR iR r b v r true:=by
 refine⟨(λh=>nomatch h),(λa a a _ he=>?_),acS _,λh=>h⟩
 grind[iU,Dv]
def eA.read{r:aR}{v:Int}{l:aR}(b:r=l++r.drop 8)(a:AT v=l)(hw:iR v):eA gR iR r false v (r.drop 8) false:=by
 refine⟨λ_=>⟨rfl,hw,by rw[iU,a];exact b⟩,λ_ _ _ _ _=>rfl,by simp,λh x hx=>h x (acM hx)⟩
def gu(T:Nat)(H:af)(p:Nat)(r:aR)(b:Bool)(fp:af):Prop:=∃(a:cf) (n k:Nat),fp=[(p,Obj.cells #[.slice a n k,.bool b] T (0,0))]/\bl jj 1 [H] a n k r/\Bytes r/\r.length<=262144
def nl(l:aR):fE l=lu gR l:=by
 simp only[fE,lu];rw[show l.flatMap gR=l from uK l]
def sW(t:dW):Prop:=iR t.first/\tb iR t.ad
def G8(p:fJ):Prop:=iR p.code/\iR p.arg
def RF:Pf (lu gR) (tb iR):=qx.list
def eA.tap{r0 d i:aR}{f:Bool}{v:Int}{l:aR}(hA:eA gR iR r0 e v d c)(g:eA (lu gR) (tb iR) d c l i f):eA jV sW r0 e ⟨v,l⟩ i f:=
 (eA.pair qx hA g).map (λp=>(⟨p.1,p.2⟩:dW)) (λa _=>by simp[jV,nl,xd,gR]) (λa h=>h) (λb h=>⟨(b.first,b.ad),h,rfl⟩)
def Bh:Pf jV sW:=(qx.pair RF).map (λp=>(⟨p.1,p.2⟩:dW)) (λa _=>by simp[jV,nl,xd,gR]) (λb h=>⟨(b.first,b.ad),h,rfl⟩)
def eA.op{r0 d i:aR}{f:Bool}{v u:Int}(hA:eA gR iR r0 e v d c)(g:eA gR iR d c u i f):eA tP G8 r0 e ⟨v,u⟩ i f:=
 (eA.pair qx hA g).map (λp=>(⟨p.1,p.2⟩:fJ)) (λa _=>by rfl) (λa h=>h) (λb h=>⟨(b.code,b.arg),h,rfl⟩)
def XJ:Pf tP G8:=(qx.pair qx).map (λp=>(⟨p.1,p.2⟩:fJ)) (λa _=>by rfl) (λb h=>⟨(b.code,b.arg),h,rfl⟩)
def Kk(t:dW):2<=(jV t).length:=by simp[jV,fE]
def WA(t:fJ):2<=(tP t).length:=by simp[tP]
def RG(t:Int):1<=(gR t).length:=by simp[gR]
def tc(b:Bool):aR:=[mO b]
def KM(_:Bool):Prop:=True
theorem uS(b:Bool):iR (mO b):=by cases b<;>simp[mO,iR]
theorem Km(h:mO b=mO c):b=c:=by grind[mO]
theorem oo(b:Bool):bo (tc b)=AT (mO b):=by rfl
def ZB:Pf tc KM:=by
 intro v a r a _ _ e
 grind[oo,vD,uS,Km]
def eA.bool{r0 d:aR}(v:Bool)(h:eA gR iR r0 b n d c)(a:n=mO v):eA tc KM r0 b v d c:=by
 subst a;refine⟨λb=>?_,λb a r _ he=>h.cmp b (mO a) r (uS a) (by grind[iU,oo]),h.len,h.CV⟩;let⟨h1,_,a⟩:=h.snd b;exact⟨h1,trivial,by grind[oo,iU]⟩
def eA.R7{r0 c:aR}(v:Bool)(h:eA gR iR r0 b n c a)(h0:n≠0)(h1:n≠1):eA tc KM r0 b v c true:=by
 refine⟨(λh=>nomatch h),λb a r _ he=>?_,h.len,h.CV⟩;rw[oo] at he;let c:=h.cmp b (mO a) r (uS a) Nn;let⟨_,hw,a⟩:=h.snd c
 grind[iU,vD,uS,mO]
def BZ(t:aM):4<=(dQ t).length:=by simp[dQ,fE]
def A5(t:bc):18<=(eF t).length:=by simp[eF,fE,jU,DP];omega
def lT(s:aM):Prop:=iR s.w/\iR s.h/\iR s.aG/\(tb iR) s.bM
def eA.ZY{r0 b d k o:aR}{m a c e n:Bool}{l:Int}{j:Int}{i:Int}{f:aR}(h0:eA gR iR r0 m l b a)(h1:eA gR iR b a j d c)(b:eA gR iR d c i k e)(a:eA (lu gR) (tb iR) k e f o n):eA dQ lT r0 m ⟨l,j,i,f⟩ o n:=by
 exact(eA.map (g:=dQ) (wg:=lT) (λp:(Int)×(Int)×(Int)×aR=>(⟨p.1,p.2.1,p.2.2.1,p.2.2.2⟩:aM)) (eA.pair qx h0 (eA.pair qx h1 (eA.pair qx b a))) (λp _=>Wj) (λp h=>h) (λs h=>⟨(s.w,s.h,s.aG,s.bM),h,rfl⟩))
def xp:Pf dQ lT:=Pf.map (g:=dQ) (wg:=lT) (λp:(Int)×(Int)×(Int)×aR=>(⟨p.1,p.2.1,p.2.2.1,p.2.2.2⟩:aM)) (Pf.pair qx (Pf.pair qx (Pf.pair qx RF))) (λp _=>Wj) (λs h=>⟨(s.w,s.h,s.aG,s.bM),h,rfl⟩)
def lS(s:bc):Prop:=iR s.aB/\iR s.a/\iR s.b/\KM s.eS/\iR s.aS/\iR s.bz/\iR s.kW/\iR s.kH/\(tb iR) s.ad/\(tb iR) s.row/\(tb iR) s.dG/\iR s.shift/\iR s.ed/\(tb sW) s.x/\(tb sW) s.y/\iR s.cb/\(tb G8) s.ops/\iR s.aG
def eA.cP{r0 m w H L Oz R S U W f j l q A G I K P:aR}{b0 a d k r E J N Qz T b c e i n o y F M:Bool}{v0:Int}{v1:Int}{v2:Int}{v3:Bool}{v4:Int}{v5:Int}{v6:Int}{v7:Int}{v8:aR}{Xz:aR}{D:aR}{C:Int}{B:Int}{z:List dW}{x:List dW}{v:Int}{u:List fJ}{t:Int}(h0:eA gR iR r0 b0 v0 m a)(h1:eA gR iR m a v1 w d)(h2:eA gR iR w d v2 H k)(h3:eA tc KM H k v3 L r)(h4:eA gR iR L r v4 Oz E)(L:eA gR iR Oz E v5 R J)(H:eA gR iR R J v6 S N)(E:eA gR iR S N v7 U Qz)(w:eA (lu gR) (tb iR) U Qz v8 W T)(r:eA (lu gR) (tb iR) W T Xz f b)(m:eA (lu gR) (tb iR) f b D j c)(k:eA gR iR j c C l e)(f:eA gR iR l e B q i)(e:eA (lu jV) (tb sW) q i z A n)(d:eA (lu jV) (tb sW) A n x G o)(c:eA gR iR G o v I y)(b:eA (lu tP) (tb G8) I y u K F)(a:eA gR iR K F t P M):eA eF lS r0 b0 ⟨v0,v1,v2,v3,v4,v5,v6,v7,v8,Xz,D,C,B,z,x,v,u,t⟩ P M:=by
 exact(eA.map (g:=eF) (wg:=lS) (λp:(Int)×(Int)×(Int)×(Bool)×(Int)×(Int)×(Int)×(Int)×aR×aR×aR×(Int)×(Int)×(List dW)×(List dW)×(Int)×(List fJ)×(Int)=>(⟨p.1,p.2.1,p.2.2.1,p.2.2.2.1,p.2.2.2.2.1,p.2.2.2.2.2.1,p.2.2.2.2.2.2.1,p.2.2.2.2.2.2.2.1,p.2.2.2.2.2.2.2.2.1,p.2.2.2.2.2.2.2.2.2.1,p.2.2.2.2.2.2.2.2.2.2.1,p.2.2.2.2.2.2.2.2.2.2.2.1,p.2.2.2.2.2.2.2.2.2.2.2.2.1,p.2.2.2.2.2.2.2.2.2.2.2.2.2.1,p.2.2.2.2.2.2.2.2.2.2.2.2.2.2.1,p.2.2.2.2.2.2.2.2.2.2.2.2.2.2.2.1,p.2.2.2.2.2.2.2.2.2.2.2.2.2.2.2.2.1,p.2.2.2.2.2.2.2.2.2.2.2.2.2.2.2.2.2⟩:bc)) (eA.pair qx h0 (eA.pair qx h1 (eA.pair qx h2 (eA.pair ZB h3 (eA.pair qx h4 (eA.pair qx L (eA.pair qx H (eA.pair qx E (eA.pair RF w (eA.pair RF r (eA.pair RF m (eA.pair qx k (eA.pair qx f (eA.pair Bh.list e (eA.pair Bh.list d (eA.pair qx c (eA.pair XJ.list b a))))))))))))))))) (λp _=>by simp[eF,nl,xd,gR,tc,lu,jU,DP]) (λp h=>h) (λs h=>⟨(s.aB,s.a,s.b,s.eS,s.aS,s.bz,s.kW,s.kH,s.ad,s.row,s.dG,s.shift,s.ed,s.x,s.y,s.cb,s.ops,s.aG),h,rfl⟩))
def xz:Pf eF lS:=Pf.map (g:=eF) (wg:=lS) (λp:(Int)×(Int)×(Int)×(Bool)×(Int)×(Int)×(Int)×(Int)×aR×aR×aR×(Int)×(Int)×(List dW)×(List dW)×(Int)×(List fJ)×(Int)=>(⟨p.1,p.2.1,p.2.2.1,p.2.2.2.1,p.2.2.2.2.1,p.2.2.2.2.2.1,p.2.2.2.2.2.2.1,p.2.2.2.2.2.2.2.1,p.2.2.2.2.2.2.2.2.1,p.2.2.2.2.2.2.2.2.2.1,p.2.2.2.2.2.2.2.2.2.2.1,p.2.2.2.2.2.2.2.2.2.2.2.1,p.2.2.2.2.2.2.2.2.2.2.2.2.1,p.2.2.2.2.2.2.2.2.2.2.2.2.2.1,p.2.2.2.2.2.2.2.2.2.2.2.2.2.2.1,p.2.2.2.2.2.2.2.2.2.2.2.2.2.2.2.1,p.2.2.2.2.2.2.2.2.2.2.2.2.2.2.2.2.1,p.2.2.2.2.2.2.2.2.2.2.2.2.2.2.2.2.2⟩:bc)) (Pf.pair qx (Pf.pair qx (Pf.pair qx (Pf.pair ZB (Pf.pair qx (Pf.pair qx (Pf.pair qx (Pf.pair qx (Pf.pair RF (Pf.pair RF (Pf.pair RF (Pf.pair qx (Pf.pair qx (Pf.pair Bh.list (Pf.pair Bh.list (Pf.pair qx (Pf.pair XJ.list qx))))))))))))))))) (λp _=>by simp[eF,nl,xd,gR,tc,lu,jU,DP]) (λs h=>⟨(s.aB,s.a,s.b,s.eS,s.aS,s.bz,s.kW,s.kH,s.ad,s.row,s.dG,s.shift,s.ed,s.x,s.y,s.cb,s.ops,s.aG),h,rfl⟩)
def qy(s:et):Prop:=iR s.ba/\(tb lT) s.aa/\(tb lS) s.ae/\(tb iR) s.aK
def eA.bO{r0 b d k o:aR}{m a c f n:Bool}{l:Int}{j:List aM}{i:List bc}{e:aR}(h0:eA gR iR r0 m l b a)(h1:eA (lu dQ) (tb lT) b a j d c)(b:eA (lu eF) (tb lS) d c i k f)(a:eA (lu gR) (tb iR) k f e o n):eA jx qy r0 m ⟨j,i,e,l⟩ o n:=by
 exact(eA.map (g:=jx) (wg:=qy) (λp:(Int)×(List aM)×(List bc)×aR=>(⟨p.2.1,p.2.2.1,p.2.2.2,p.1⟩:et)) (eA.pair qx h0 (eA.pair xp.list h1 (eA.pair xz.list b a))) (λp _=>Wd) (λp h=>h) (λs h=>⟨(s.ba,s.aa,s.ae,s.aK),h,rfl⟩))
def TR:Pf jx qy:=Pf.map (g:=jx) (wg:=qy) (λp:(Int)×(List aM)×(List bc)×aR=>(⟨p.2.1,p.2.2.1,p.2.2.2,p.1⟩:et)) (Pf.pair qx (Pf.pair xp.list (Pf.pair xz.list RF))) (λp _=>Wd) (λs h=>⟨(s.ba,s.aa,s.ae,s.aK),h,rfl⟩)
end
end Go.Proofs.YtmfebppagcejcaaGreat
