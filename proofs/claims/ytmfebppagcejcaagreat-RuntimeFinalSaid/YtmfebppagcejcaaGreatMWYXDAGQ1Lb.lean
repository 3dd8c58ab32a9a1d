import Derived.Shelf.SortG.Plain
import Derived.Shelf.SortG.SortNone
import Derived.Shelf.SlicesG.CompactI
import Derived.Test.YtmfebppagcejcaaGreatMWYXDAGQ1Tab
set_option linter.all false
namespace Go.Proofs.YtmfebppagcejcaaGreat
open Go Go.E Go.Proofs.Tryz
set_option maxRecDepth 100000
set_option maxHeartbeats 2000000
section
variable{W w:World}{H:af}{F:cj}
def uY(s:bc):Prop:=(1<=s.aB/\s.aB<=6)/\(¬s.aB=1\/((1<=s.kW/\s.kW<=9)/\1<=s.kH/\s.kH<=9))/\(¬s.aB=2\/(1<=(s.dG.length:Int)/\(s.dG.length:Int)<=9))/\(¬s.aB=4\/(1<=s.cb/\s.cb<=128))
def PE{q:bc}{s t:aY}(h:(fK q s t).2=0):uY q:=by
 unfold fK at h;split at h
 ·rename_i hf;let hk:1<=q.aB/\q.aB<=6:=by unfold dD at hf;omega
  refine⟨hk,?_⟩;split at h
  ·split at h
   ·split at h
    ·rename_i h4;unfold aT at h4;clear h;split at h4
     ·rename_i k;unfold eh at h4;dsimp only at h4;split at h4
      ·omega
      ·omega
     ·split at h4
      ·rename_i k;unfold eJ at h4;dsimp only at h4;split at h4
       ·omega
       ·omega
      ·split at h4
       ·omega
       ·split at h4
        ·split at h4
         ·omega
         ·simp at h4
        ·omega
    ·rename_i h4;exact absurd h h4
   ·simp at h
  ·simp at h
 ·simp at h
def xZ{s:bc}{h:Int}{r:dY}(hk:uY s)(hr:Ei r):0<=iv s h r/\iv s h r<=20000:=by
 let⟨h0,h1,h2,h4⟩:=hk;unfold Ei at hr;unfold iv;split
 ·exact el (A:=136) (B:=136) Y Y|>.imp id (λh=>by omega)
 ·split
  ·exact el (A:=136) (B:=136) Y Y|>.imp id (λh=>by omega)
  ·split
   ·exact(by let hl:=Ea (s:=s) (n:=h) (a:=r.y0) (b:=r.y1) (size:=if s.aB=2 then s.dG.length else s.kH) (t:=s.y);exact el (A:=136) (B:=136) Y (by unfold lZ;omega)|>.imp id (λh=>by omega))
   ·split
    ·omega
    ·split<;>omega
def AO(q:aA)(hh:Int)(r:dY)(g:aA.Ok [H] q)(e:uY q.v)(f:Ei r)(i:X W w (H::F)):
 Ro prog 263 #[.agg (aL q).toArray,I hh,.agg (ep r).toArray] (I (tE q.v hh r)) W w (H::F):=by
 let c:=g.ad.ll;let c:=g.row.le;let d:=g.row.len;let c:=g.dG.le;let h0:=g.dG.len;let c:=g.x.ll;let c:=g.y.ll;let c:=g.ops.ll;let c:=d;let j:=h0;let c:=xZ (h:=hh) e f;let w0:=e;unfold uY at w0;simp only[aA.v] at w0;rw[j] at w0;let c:=f;unfold Ei at c;refine aq 79 func263 Z<|Q 2<|eD i (aL q) λ_ _ c=>eD c (ep r) λ_ _ c=>JO 4<|bJ c [] (fb 1 0 2 1<|fb 3 0 0 1<|fb 6 0 3 1<|fb 8 0 1 1<|fn) [0,2,5,7,1,3,4,10,6,8,9,11] λ_ f=>wV 4<|wL 0<|wL 1<|vY r.x1 r.x0<|wV 1<|wL 2<|wL 3<|vY r.y1 r.y0<|wV 1<|wN<|JX 6<|eQ f 0 [] (γ:=Unit) (λ_ R=>⟨[(9,I (iv q.v hh r))],R,0,True⟩) ?_ ?_;rotate_left
 ·rintro _ V _⟨c,_⟩;exact Q 3<|ei 8 (iv q.v hh r)<|cS (NS (8*(iv q.v hh r)) 16 1048576 od c.ao) λ_ c=>RO 14 [I (ET (8*(iv q.v hh r)) 16 1048576)]<|⟨by unfold tE;rw[<-WN (l:=1048576) Y Y];rfl,(c.ap [0,0])⟩
 refine GC f 13 [1]<|cE q.aB 1 (λd=>GC f 4 [1]<|aU (r.x1-r.x0) q.kW<|dP ((r.x1-r.x0)+q.kW) 1<|GO f 3 [1]<|aU (r.y1-r.y0) q.kH<|dP ((r.y1-r.y0)+q.kH) 1<|(by let c:=el (a:=(((r.x1-r.x0)+q.kW)-1)) (b:=(((r.y1-r.y0)+q.kH)-1)) (A:=300) (B:=300) Y Y;exact ei (((r.x1-r.x0)+q.kW)-1) (((r.y1-r.y0)+q.kH)-1)<|bX 3 Z<|⟨(),⟨⟨(aev (b:=I ((((r.x1-r.x0)+q.kW)-1)*(((r.y1-r.y0)+q.kH)-1))) kr (acd (λz=>Value.int .i64 z) (show((((r.x1-r.x0)+q.kW)-1)*(((r.y1-r.y0)+q.kH)-1))=iv q.v hh r from by unfold iv;rw[aca (show q.v.aB=1 from by simp only[aA.v];omega)];rfl))),trivial⟩,sA⟩,f,trivial⟩)) λd=>Q 6<|cE q.aB 2 (λd=>GC f 6 [1]<|aU (r.y1-r.y0) (q.dG.n:Int)<|dP ((r.y1-r.y0)+(q.dG.n:Int)) 1<|(by let c:=el (a:=(r.x1-r.x0)) (b:=(((r.y1-r.y0)+(q.dG.n:Int))-1)) (A:=300) (B:=300) Y Y;exact ei (r.x1-r.x0) (((r.y1-r.y0)+(q.dG.n:Int))-1)<|bX 3 Z<|⟨(),⟨⟨(aev (b:=I ((r.x1-r.x0)*(((r.y1-r.y0)+(q.dG.n:Int))-1))) kr (acd (λz=>Value.int .i64 z) (show((r.x1-r.x0)*(((r.y1-r.y0)+(q.dG.n:Int))-1))=iv q.v hh r from by unfold iv;rw[ab9 (show ¬q.v.aB=1 from by simp only[aA.v];omega),aca (show q.v.aB=2 from by simp only[aA.v];omega),show q.v.dG.length=q.dG.n from j]))),trivial⟩,sA⟩,f,trivial⟩)) λd=>Q 6<|cE q.aB 3 (λc=>?_) (λc=>?_)
 ·refine GC f 8 [1801,0,0]<|cZ (F5 q hh r.y0 r.y1 (g.ag (mF 2)) f.ao) ?_;rintro _ _⟨_,d,_,_,rfl,e,c⟩;let g:=c.ak;let c:=e.ll;exact bf<|(by let c:=Ea (s:=q.v) (n:=hh) (a:=r.y0) (b:=r.y1) (size:=if q.v.aB=2 then q.v.dG.length else q.v.kH) (t:=q.v.y);let c:=(e).len;unfold lZ at c;let c:=el (a:=(r.x1-r.x0)) (b:=(d:Int)) (A:=300) (B:=300) Y Y;exact ei (r.x1-r.x0) (d:Int)<|bX 3 Z<|⟨(),⟨⟨(aev (b:=I ((r.x1-r.x0)*(d:Int))) kr (acd (λz=>Value.int .i64 z) (show((r.x1-r.x0)*(d:Int))=iv q.v hh r from by unfold iv;rw[ab9 (show ¬q.v.aB=1 from by simp only[aA.v];omega),ab9 (show ¬q.v.aB=2 from by simp only[aA.v];omega),aca (show q.v.aB=3 from by simp only[aA.v];omega),((e).len)]))),trivial⟩,sA⟩,(g.aj 0 Z),trivial⟩)
 exact Q 6<|cE q.aB 4 (λc=>gCI f 6 [1] Z<|⟨(),⟨⟨(aev (b:=I q.cb) kr (acd (λz=>Value.int .i64 z) (show q.cb=iv q.v hh r from by unfold iv;rw[ab9 (show ¬q.v.aB=1 from by simp only[aA.v];omega),ab9 (show ¬q.v.aB=2 from by simp only[aA.v];omega),ab9 (show ¬q.v.aB=3 from by simp only[aA.v];omega),aca (show q.v.aB=4 from by simp only[aA.v];omega)];rfl))),trivial⟩,sA⟩,f,trivial⟩) λc=>Q 6<|cE q.aB 5 (λc=>Q 3<|aU (r.x1-r.x0) (r.y1-r.y0)<|aU ((r.x1-r.x0)+(r.y1-r.y0)) 1<|bX 3 Z<|⟨(),⟨⟨(aev (b:=I (((r.x1-r.x0)+(r.y1-r.y0))+1)) kr (acd (λz=>Value.int .i64 z) (show(((r.x1-r.x0)+(r.y1-r.y0))+1)=iv q.v hh r from by unfold iv;rw[ab9 (show ¬q.v.aB=1 from by simp only[aA.v];omega),ab9 (show ¬q.v.aB=2 from by simp only[aA.v];omega),ab9 (show ¬q.v.aB=3 from by simp only[aA.v];omega),ab9 (show ¬q.v.aB=4 from by simp only[aA.v];omega),aca (show q.v.aB=5 from by simp only[aA.v];omega)]))),trivial⟩,sA⟩,f,trivial⟩) λc=>Q 6<|CE q.aB 6 (λc=>lq 2 Z<|⟨(),⟨⟨(aev (b:=I 0) kr (acd (λz=>Value.int .i64 z) (show(0:Int)=iv q.v hh r from by exfalso;omega))),trivial⟩,sA⟩,f,trivial⟩) λc=>lq 5 Z<|⟨(),⟨⟨(aev (b:=I (r.x1-r.x0)) kr (acd (λz=>Value.int .i64 z) (show(r.x1-r.x0)=iv q.v hh r from by unfold iv;rw[ab9 (show ¬q.v.aB=1 from by simp only[aA.v];omega),ab9 (show ¬q.v.aB=2 from by simp only[aA.v];omega),ab9 (show ¬q.v.aB=3 from by simp only[aA.v];omega),ab9 (show ¬q.v.aB=4 from by simp only[aA.v];omega),ab9 (show ¬q.v.aB=5 from by simp only[aA.v];omega)]))),trivial⟩,sA⟩,f,trivial⟩
def sX{l:List dW}{n:Int}(h:cJ l n=0):1<=(l.length:Int)/\(l.length:Int)<=128:=by
 grind[cJ]
def OH{q:bc}{s t:aY}(h:(fK q s t).2=0):mK (fK q s t).1:=by
 unfold fK at h⊢;split at h
 ·rename_i h1;rw[aca h1];split at h
  ·rename_i h2;rw[aca h2];split at h
   ·rename_i h3;rw[aca h3];split at h
    ·rename_i h4;rw[aca h4];have hs:=h2.1;unfold mK at hs;clear h h1 h2 h3;unfold aT at h4⊢;split at h4
     ·exact(by grind[eh,mK])
     ·rename_i k1;rw[ab9 k1];split at h4
      ·exact(by grind[eJ,mK])
      ·rename_i k2;rw[ab9 k2];split at h4
       ·rename_i k;rw[aca k];unfold cM at h4;unfold mK;split at h4
        ·rename_i e1;split at h4
         ·exact(by rename_i e2;have l1:=sX e1;have l2:=sX e2;grind)
         ·rename_i e2;exact absurd h4 e2
        ·rename_i e1;exact absurd h4 e1
       ·rename_i k3;rw[ab9 k3];split at h4
        ·rename_i k;rw[aca k];unfold mK;split at h4
         ·exact(by rename_i k5;rw[aca k5];have:=el (a:=s.w-1) (b:=s.h-1) (A:=s.w-1) (B:=s.h-1) Y Y;grind)
         ·exfalso;simp at h4
        ·rename_i k4;rw[ab9 k4];split at h4
         ·rename_i k;rw[aca k];unfold mK;split at h4
          ·exact(by rename_i k5;rw[aca k5];have h6:=acy k5;have h7:fz s.w s.h s.aG=s.w*s.h*s.aG:=(by unfold fz;simp_all);have h8:0<s.w*s.h:=aeU Y Y;have h9:0<s.w*s.h*s.aG:=aeU h8 Y;grind)
          ·exfalso;simp at h4
         ·rename_i k5;rw[ab9 k5];unfold mK;split at h4
          ·rename_i k6;rw[aca k6];unfold de at k6;split at h4
           ·exfalso;simp at h4
           ·rename_i k7;rw[ab9 k7];split at k6
            ·split at k6
             ·exact rD
             ·exfalso;omega
            ·exfalso;rename_i k8;exact k8 k6
          ·rename_i k6;exact absurd h4 k6
    ·rename_i h4;exact absurd h h4
   ·exfalso;simp at h
  ·exfalso;simp at h
 omega
def hU:Int->Nat->aR
 |_,0=>[]
 |k,n+1=>k::hU (k+1) n
theorem pF:∀{n:Nat} {k x:Int},x∈hU k n↔k<=x/\x<k+n
 |0,k,x=>by simp[hU];try omega
 |n+1,k,x=>by
  simp only[hU,acw,pF (n:=n)];omega
def wQ:∀{n:Nat} {k:Int},hU k n++[k+n]=hU k (n+1)
 |0,k=>by simp[hU]
 |n+1,k=>by
  let h:=wQ (n:=n) (k:=k+1)
  grind[hU]
def ordered(ni:Int)(S:List bc):Prop:=∀(m:Nat) (s:bc),S[m]?=some s->∀x∈df s,0<=x/\x<ni+m
variable{ni:Int}
def IJ{S:List bc}(c:ordered ni S){m:Nat}(e:m<S.length):∀(d i:Nat),i+d=m->dX ni (hU ni m) (S.drop i) i=ni+m
 |0,i,h=>by
  let b:i<S.length:=by omega
  rw[ad0 b,dX,aca]
  ·omega
  ·have h1:¬(ni+(i:Int))∈hU ni m:=by rw[pF];omega
   have a:vn ni (hU ni m) S[i]=true:=(by unfold vn;rw[acH];intro x hx;let:=c i S[i] (aco b) x hx;grind[decide_eq_true,pF]);simp[h1,a]
 |d+1,i,h=>by
  let b:i<S.length:=by omega
  have a:=IJ c e d (i+1) Y;rw[ad0 b,dX,ab9]
  ·exact a
  grind[hU,pF]
def EJ{S:List bc}(c:0<=ni)(b:ordered ni S):∀(k m:Nat),m+k=S.length->lm ni S k (hU ni m)=some (hU ni S.length)
 |0,m,h=>by rw[lm,<-h];rfl
 |k+1,m,h=>by
  let hp:=IJ b (show m<S.length by omega) m 0 (by omega);rw[ado] at hp;let a:dX ni (hU ni m) S 0=ni+m:=hp;rw[lm,a,ab9 (by omega),wQ];exact EJ c b k (m+1) (by omega)
def Ao(out:List aY)(s:bc):aY×Int:=fK s (eg out s.a) (if fY s then eg out s.b else⟨0,0,0⟩)
def kO:List aY->List bc->Option (List aY)
 |out,[]=>some out
 |out,s::l=>if(Ao out s).2=0 then kO (out++[(Ao out s).1]) l else none
def Em:∀(S T:List bc) (out l:List aY),kO out S=some l->kO out (S++T)=kO l T
 |[],T,out,l,h=>by grind[kO]
 |s::S,T,out,l,h=>by
  rw[acP,kO];rw[kO] at h;split at h
  ·exact(by rename_i hc;rw[aca hc];exact Em S T _ l h)
  ·cases h
def CI:∀(S:List bc) (out l:List aY),(∀x∈out,mK x)->kO out S=some l->(∀x∈l,mK x)/\l.length=out.length+S.length
 |[],out,l,ho,h=>by grind[kO]
 |s::S,out,l,ho,h=>by
  rw[kO] at h;split at h
  ·rename_i hc
   let h2:=CI S _ l (λx hx=>by
    rcases acn.1 hx with h1|h1
    ·exact ho x h1
    ·simp only[ack] at h1;rw[h1];exact OH hc) h
   exact⟨h2.1,(by rw[h2.2];exact mo)⟩
  ·cases h
def Bs{out z:List aY}{i:Int}(h0:0<=i)(h:i<out.length):eg (out++z) i=eg out i:=by
 grind[eg]
def AW{ni:Nat}{S:List bc}(e:ordered ni S):∀(T:List bc) (m:Nat) (cur:List aY),S.drop m=T->cur.length=ni+m->
 (∀l,kO cur T=some l->iB ni S (hU (ni+m) T.length) (cur++List.replicate T.length ⟨0,0,0⟩)=(l,0,0))/\
 (kO cur T=none->(iB ni S (hU (ni+m) T.length) (cur++List.replicate T.length ⟨0,0,0⟩)).2.2≠0)
 |[],m,cur,a,hc=>by
  grind[kO,hU,iB]
 |s::T,m,cur,a,hc=>by
  have b:m<S.length:=(by let:=acd List.length a;simp at this;omega);let c:S[m]?=some s:=(by rw[ad0 b] at a;grind);let d:S.drop (m+1)=T:=(by grind[List.drop_eq_getElem_cons,List.cons.inj]);let a:=e m s c;let ha:0<=s.a/\s.a<(ni:Int)+m:=a s.a (by unfold df;split<;>simp);let c:fY s->0<=s.b/\s.b<(ni:Int)+m:=λh=>a s.b (by grind[df]);let a:gq S ni ((ni:Int)+m)=s:=(by grind[gq])
  have b:fu ni S ((ni:Int)+m) (cur++List.replicate (T.length+1) ⟨0,0,0⟩)=Ao cur s:=by
   unfold fu Ao;rw[a,Bs ha.1 Y];by_cases h:fY s
   ·rw[aca h,aca h,Bs (c h).1 dV]
   simp_all
  simp only[acu,hU,iB,b];by_cases b:(Ao cur s).2=0
  ·rw[aca b];let a:(cur++List.replicate (T.length+1) (⟨0,0,0⟩:aY)).set ((ni:Int)+m).toNat (Ao cur s).1=(cur++[(Ao cur s).1])++List.replicate T.length ⟨0,0,0⟩:=(by rw[adC _ _ Y,show((ni:Int)+m).toNat-cur.length=0 by omega,aej,adZ];simp);rw[a];let a:=AW e T (m+1) (cur++[(Ao cur s).1]) d mo;rw[show((ni:Int)+((m+1:Nat):Int))=(ni:Int)+m+1 by omega] at a;refine⟨λl h=>a.1 l ?_,λh=>a.2 ?_⟩
   ·rw[kO,aca b] at h;exact h
   ·rw[kO,aca b] at h;exact h
  grind[kO]
def wH(I:List aM)(S:List bc)(p:Int):et:=⟨I,S,[0],p⟩
structure Good(I:List aM)(S:List bc)(p:Int):Prop where
 pl:I.all aO=true
 ni:1<=I.length/\I.length<=2
 ns:S.length<=8
 pr:0<=p/\p<4
 od:ordered I.length S
variable{p:Int}
def It{I:List aM}{S:List bc}(h:Good I S p)(h1:1<=S.length):
 (∀l,kO (I.map cd) S=some l->db (wH I S p)=(l,0,0))/\(kO (I.map cd) S=none->(db (wH I S p)).2.2≠0):=by
 have c:du (wH I S p)=0:=by
  unfold du wH;dsimp only;have a:=h.ni;have a:=h.ns;have hp:=h.pr;rw[aca (by grind),aca hp,aca,aca]
  ·unfold xg;exact mo
  ·exact(by rw[acH];intro s a;obtain⟨m,b⟩:=adx a;unfold xg;rw[acH];intro x hx;have:=h.od m s b x hx;grind)
 have b:ez (wH I S p)=(hU I.length S.length,0):=(by unfold ez;rw[aca c];have:=EJ (ni:=I.length) Y h.od S.length 0 Y;dsimp only[wH];rw[show([]:aR)=hU I.length 0 from rfl,this]);have a:=AW (ni:=I.length) h.od S 0 (I.map cd) (by simp) (by simp);have a:db (wH I S p)=iB I.length S (hU I.length S.length) (I.map cd++List.replicate S.length ⟨0,0,0⟩):=(by unfold db;rw[b,aca Z];show(if I.all aO=true then _ else _)=_;rw[aca h.pl];rfl)
 simp_all
def Gq{I:List aM}(h:I.all aO=true):∀x∈I.map cd,mK x:=by
 intro x hx;obtain⟨q,a,rfl⟩:=acG.1 hx
 grind[aO,cU,mK,cd]
def safe(a:Int):bc:=⟨6,a,-1,false,0,0,0,0,[],[],[],0,0,[],[],0,[⟨0,0⟩],255⟩
def Oo{a:Int}{s:aY}(c:mK s):(fK (safe a) s ⟨0,0,0⟩).2=0:=by
 let hf:dD (safe a):=by unfold dD safe;simp
 let b:¬fY (safe a):=by unfold fY safe;simp
 let b:=c;unfold mK at c;let b:cH (safe a).ops false=0/\cH (safe a).ops true=0:=by constructor<;>rfl
 let b:fx ⟨0,0⟩ (Jv ⟨0,0⟩ []) (Fi ⟨0,0⟩ []) s.aG 1:=(by unfold fx l8 eb;grind);let b:(fI (safe a).ops s.aG 1).2.2=0:=(by grind[fI,kL,safe,eb,Jv,Fi])
 grind[d0,de,safe,decide,aT,fK]
def Qq{out:List aY}{i:Int}(h:∀x∈out,mK x)(h0:0<=i)(h1:i<out.length):mK (eg out i):=by
 grind[eg]
def Dc{S:List bc}{s:bc}(h:ordered ni S)(a:∀x∈df s,0<=x/\x<ni+S.length):ordered ni (S++[s]):=by
 intro m t b;by_cases a:m<S.length
 ·exact(by rw[ada a] at b;exact h m t b)
 grind
def Good.snoc{I:List aM}{S:List bc}{s:bc}(h:Good I S p)(a:S.length+1<=8)(a:∀x∈df s,0<=x/\x<(I.length:Int)+S.length):Good I (S++[s]) p:=
 ⟨h.pl,h.ni,by simp;omega,h.pr,Dc h.od a⟩
def LO{I:List aM}{S:List bc}{l:List aY}{a:Int}(h:Good I S p)(c:kO (I.map cd) S=some l)(ha:0<=a/\a<(I.length:Int)+S.length):∃b,kO (I.map cd) (S++[safe a])=some b:=by
 let d:=CI S _ l (Gq h.pl) c;rw[Em S [safe a] _ l c,kO];let b:(Ao l (safe a)).2=0:=(by unfold Ao;rw[ab9 (by unfold fY safe;simp)];refine Oo (Qq d.1 ha.1 ?_);show a<_;simp_all);rw[aca b];exact⟨_,rfl⟩
end
section
variable{W w:World}{H:af}{F:cj}
def yS(q:ah):Prop:=q.bM.l.length<=64/\∀z∈q.bM.l,dT z
variable{p n k:Nat}{i:Int}
def iW{a:cf}{xs:aR}(o:bl ca 1 [H] a n k xs)(hi:0<=i/\i<=n)(j:X W w (aW p #[.slice a n k,I i] 91::H::F))(h:Int)(b:h<=64):
 Calls prog 80 #[Pt p 0,I h] w λe f=>∃(d:cf) (c:Nat) (b:Nat) (zs:aR) (G:af),e=.returned (.slice d c b)/\(bl ca 1 [G] d c b zs)/\((zs.length:Int)=max h 0/\∀z∈zs,dT z)/\∃b:Int,(0<=b/\b<=n)/\X W f (aW p #[.slice a n k,I b] 91::G::H::F):=by
 let b:=o.le;refine aq 22 func80 Z<|Q 17<|bF [0,1] (γ:=Nat×Int×aR×SO) (λ⟨i,b,zs,g,l,f,d⟩ R=>⟨[(6,I i),(5,.slice g l f)],d::aW p #[.slice a n k,I b] 91::R,h.toNat-i,i<=h.toNat/\(∀z∈zs,dT z)/\(zs.length=i)/\(0<=b/\b<=n)/\aF ca 3 1 g l f zs d⟩) (0,i,[],none,0,0,[]) ⟨(X.bU j),Y,pG,by rfl,Y,(aF.nil (enc:=ca) (E:=3) (sz:=1) fR)⟩ ?_;rintro⟨i,b,zs,g,l,f,d⟩ V _⟨c,hi,m,b,b,j⟩;let b:=j.ll;refine Q 8<|CD ((i:Int)<h) (λb=>RC 12 [.slice g l f]<|⟨_,_,_,zs,d,rfl,(j.dt (O:=[d]) 0 Z),⟨Y,m⟩,_,Y,(c.pick 1 Z)⟩) λb=>Q 8<|let h0:=(c.pick 1 Z);cZ (bB (o.fl 1) Y h0.aQ 41 Y) ?_;rintro _ _⟨g,rfl,_,_,_,b⟩;refine dP g 20<|ec b.ak #[I 1,I 2,I (-1),I 0,I (g-20),I 5] 3 λ_ _ b=>let c:=(b.pick 1 Z);cZ (bQ (o.fl 2) Y c.aQ (bl.ao (bl.dO (enc:=ca) (sz:=1) (xs:=[1,2,-1,0,(g-20),5]) (λ_=>(by rfl)) 6 0 Z Z Z Y)) Y Y) ?_;rintro _ _⟨c,rfl,f,h,_,b⟩;let d:=b.ak;let h1:(c:Int)=1\/(c:Int)=2\/(c:Int)=(-1)\/(c:Int)=0\/(c:Int)=(g-20)\/(c:Int)=5:=by simpa using f
 exact ec d #[I c] 3 λ_ _ b=>dM (nb:=8) b j 3 (bl.dO (enc:=ca) (sz:=1) (xs:=[c]) fR 1 0 Z Z Z Y) underlying22 (i:=Tryz.t3) kr fR λb f d _ g w0=>JO 6<|aU (i:Int) 1<|bX 2 Z<|⟨(i+1,h,(zs++[c]),b,(l+1),f,d),od,bR,((w0.pick 3 Z).ap [1,2]),Y,jY m (by unfold dT;omega),by simp;omega,Y,g⟩
def vc{a:cf}{xs:aR}(j:bl ca 1 [H] a n k xs)(hi:0<=i/\i<=n)(g:X W w (aW p #[.slice a n k,I i] 91::H::F))(mx:Int)(c:0<=mx/\mx<=4294967296):
 Calls prog 79 #[Pt p 0,I mx] w λe f=>∃(c:Int) (d:Int),e=.returned (.agg #[I c,I d])/\(dT c/\dT d)/\∃c:Int,(0<=c/\c<=n)/\X W f (aW p #[.slice a n k,I c] 91::H::F):=by
 let c:=j.le;refine aq 20 func79 Z<|Q 2<|aI g zeroValue111 λ_ _ c=>JO 5 ?_;let h0:=(c.pick 1 Z);refine cZ (bB (j.fl 1) Y h0.aQ 4 Y) ?_;rintro _ _⟨h,rfl,_,_,_,c⟩;refine bf<|aI c.ak zeroValue111 λ_ _ c=>bP c 0 Z [I h,I 0] λ_ d=>GO d 10 [0]<|CE h 3 (λf=>GC d 5 [200]<|bP d 2 Z [I h,I 0] λ_ c=>my 3 Z<|hD (vs:=[.agg #[I h,I 0]]) Z (.cons (.cell _ _ _ _ kr (nW c 2 0 [I h,I 0] (isAgg111 _) (sizeOf111 _) Z Z Z)) .nil)<|⟨h,0,rfl,by unfold dT;omega,_,Y,(c.ap [0,1])⟩) λf=>?_;let c:=tZ (a:=mx) (b:=2) (A:=4294967296) Y Y;refine Q 4<|mE mx 2<|ec d #[I 0,I mx,I (mx.tdiv 2)] 3 λ_ _ c=>?_;let d:=(c.pick 2 Z);refine cZ (bQ (j.fl 3) Y d.aQ (bl.ao (bl.dO (enc:=ca) (sz:=1) (xs:=[0,mx,(mx.tdiv 2)]) (λ_=>(by rfl)) 3 0 Z Z Z Y)) Y Y) ?_;rintro _ _⟨d,rfl,g,_,_,c⟩;let f:=c.ak;let c:(d:Int)=0\/(d:Int)=mx\/(d:Int)=(mx.tdiv 2):=by simpa using g
 exact bf<|sT f 2 1 (I d) [I d] #[I h,I d] sizeOf3 λ_ c=>GO c 5 [202]<|bP c 3 Z [I h,I d] λ_ c=>my 3 Z<|hD (vs:=[.agg #[I h,I d]]) Z (.cons (.cell _ _ _ _ kr (nW c 3 0 [I h,I d] (isAgg111 _) (sizeOf111 _) Z Z Z)) .nil)<|⟨h,d,rfl,by unfold dT;omega,_,Y,(c.ap [1,1,1])⟩
def FU{a:cf}{xs:aR}(D:bl ca 1 [H] a n k xs)(hi:0<=i/\i<=n)(f:X W w (aW p #[.slice a n k,I i] 91::H::F))(w0:Int)(h0:Int)(c:(1<=w0/\w0<=8)/\1<=h0/\h0<=8):
 Calls prog 43 #[Pt p 0,I w0,I h0] w λe d=>∃(q:ah) (G:af),e=.returned (.agg (au q).toArray)/\(ah.Ok [G] q)/\(q.w=w0/\q.h=h0/\aO q.v=true/\yS q)/\∃c:Int,(0<=c/\c<=n)/\X W d (aW p #[.slice a n k,I c] 91::G::H::F):=by
 have c:=D.le;have c:=el (a:=w0) (b:=h0) (A:=8) (B:=8) Y Y;refine aq 46 func43 Z<|Q 2<|aI f zeroValue103 λc _ E=>JO 2<|eQ E 2 [0,6] (γ:=Nat×Int×cf×af×Int) (λ⟨d,h,g,j,f⟩ R=>⟨[(7,Pt d 0)],aW p #[.slice a n k,I f] 91::aW d #[I w0,I h0,I h,.slice g ((w0*h0).toNat) ((w0*h0).toNat)] 103::j::aW c #[I 0,I 0,I 0,nS] 103::R,0,(0<=f/\f<=n)/\(1<=h/\h<=65535)/\aF ca 3 1 g ((w0*h0).toNat) ((w0*h0).toNat) (List.replicate ((w0*h0).toNat) 0) j⟩) ?_ ?_;rotate_left
 ·rintro⟨d,h,g,j,f⟩ V _⟨m,c,c,r⟩;refine Q 7<|bF [0,6,7] (γ:=Nat×Int×aR×SO) (λ⟨i,c,s,u,o,t,l⟩ R=>⟨[(8,I i)],l::aW p #[.slice a n k,I c] 91::aW d #[I w0,I h0,I h,.slice u o t] 103::R,((w0*h0).toNat)-i,i<=(w0*h0).toNat/\(∀z∈s,0<=z/\z<=h)/\(s.length=(w0*h0).toNat)/\(0<=c/\c<=n)/\aF ca 3 1 u o t s l⟩) (0,f,(List.replicate ((w0*h0).toNat) 0),g,(w0*h0).toNat,(w0*h0).toNat,j) ⟨(m.pick 2 Z),Y,(by intro z hz;have:=acK hz;omega),by simp,Y,r⟩ ?_;rintro⟨i,c,s,u,o,t,l⟩ V _⟨d,hi,C,c,c,m⟩;have c:=m.ll;refine GC d 10 [2]<|CD ((i:Int)<o) (λg=>GC d 8 [402]<|bP d 3 Z [I w0,I h0,I h,.slice u o t] λ_ f=>my 3 Z<|hD (vs:=[.agg #[I w0,I h0,I h,.slice u o t]]) Z (.cons (.cell _ _ _ _ kr (nW f 3 0 [I w0,I h0,I h,.slice u o t] (isAgg103 _) (sizeOf103 _) Z Z Z)) .nil)<|(by have c:aO ⟨w0,h0,h,s⟩=true:=r8 (p:=⟨w0,h0,h,s⟩) ⟨by unfold cU;dsimp only;omega,by dsimp only;omega⟩ (acH.2 (λz hz=>acg (C z hz)));exact⟨(⟨w0,h0,h,⟨u,o,t,s⟩⟩:ah),l,rfl,⟨(m.dt (O:=[l]) 0 Z)⟩,⟨rfl,rfl,c,by dsimp only;omega,λz hz=>by have:=C z hz;unfold dT;omega⟩,_,Y,((f.pick 1 Z).ap [2,2])⟩)) λg=>Q 4 ?_;obtain⟨y,c,c,x,c,r,v⟩:=aF.eN m i;refine bJ d [8,13,16,17,19] (fb 1 2 3 1<|fb 6 2 2 1<|fb 11 2 2 1<|fb 15 2 2 1<|fn) [0,2,3,4,5,9,10,14,1,6,7,11,12,15,8,13,16,17,18,19] λ_ d=>wV 8<|wL 0<|wL 1<|mD h 1<|wL 2<|mD h 1<|wL 3<|wO Z ?_;have c:=(d.pick 1 Z);refine cZ (bB (D.fl 3) Y c.aQ (h+1) Y) ?_;rintro _ _⟨j,rfl,_,_,_,c⟩;have d:=c.ak;refine nZ d [2,2,2,2]<|wO Z<|cZ (bB (D.fl 3) Y d.aQ (h+1) Y) ?_;rintro _ _⟨g,rfl,_,_,_,c⟩;have d:=c.ak;refine nZ d [2,2,2,2]<|wO Z<|ec d #[I j,I g,I h,I 0] 3 λ_ _ c=>nZ c [3,3,3]<|wO Z ?_;have d:=(c.pick 1 Z);refine cZ (bQ (D.fl 4) Y d.aQ (bl.ao (bl.dO (enc:=ca) (sz:=1) (xs:=[j,g,h,0]) (λ_=>(by rfl)) 4 0 Z Z Z Y)) Y Y) ?_;rintro _ _⟨d,rfl,f,l,_,c⟩;have h1:=c.ak;have c:(d:Int)=j\/(d:Int)=g\/(d:Int)=h\/(d:Int)=0:=by simpa using f
  exact nZ h1 [3,3,3]<|wI r<|wO Z<|fj h1 m v 2 i 0 y d x (I d) [I d] sizeOf3 λ_ c g f=>nA<|wN<|JX 4<|aU (i:Int) 1<|bX 2 Z<|⟨(i+1,l,(s.set i d),u,o,t,c),od,bR,((f.pick 2 Z).aj 2 Z),Y,mem_set C Y,by simp;omega,Y,g⟩
 refine kA E [3,4,8,10,11] fn (pS [0,1,2,5,6,7]<| .f3 3 8 10 (.f3 4 8 10 (.fk 8 10 (pS [9]<| .ef 10<| .ef 11<| .fin) (.ef 8<|pS [9]<| .ef 11<| .fin)) (.fk 4 10 (pS [9]<| .ef 10<| .ef 11<| .fin) (.ef 4<|pS [9]<| .ef 11<| .fin)) (.fk 4 8 (.ef 8<|pS [9]<| .ef 11<| .fin) (.ef 4<|pS [9]<| .ef 11<| .fin))) (.fk 3 10 (.fk 4 10 (pS [9]<| .ef 10<| .ef 11<| .fin) (.ef 4<|pS [9]<| .ef 11<| .fin)) (.ef 3<| .ef 4<|pS [9]<| .ef 11<| .fin)) (.fk 3 8 (.fk 4 8 (.ef 8<|pS [9]<| .ef 11<| .fin) (.ef 4<|pS [9]<| .ef 11<| .fin)) (.ef 3<| .ef 4<|pS [9]<| .ef 11<| .fin))) λ_ t=>qV 5<|abd w0 h0<|qF3 ?_ ?_ ?_
 ·refine qO Z<|ec t #[I 255,I 255,I 65535,I 1,I 7] 3 λ_ _ s=>nA<|qF3 ?_ ?_ ?_
  ·refine qO Z ?_;have c:=(s.pick 2 Z);refine cZ (bQ (D.fl 2) Y c.aQ (bl.ao (bl.dO (enc:=ca) (sz:=1) (xs:=[255,255,65535,1,7]) (λ_=>(by rfl)) 5 0 Z Z Z Y)) Y Y) ?_;rintro _ _⟨g,rfl,d,m,_,c⟩;have l:=c.ak;have c:(g:Int)=255\/(g:Int)=255\/(g:Int)=65535\/(g:Int)=1\/(g:Int)=7:=by simpa using d
   refine nA<|qF ?_ ?_
   ·exact qO Z<|gC (kl:=.i64) (kc:=.i64) (enc:=ca) (sz:=1) (nb:=8) l 0 (w0*h0).toNat (w0*h0) (Y:(w0*h0)=(((w0*h0).toNat:Nat):Int)) underlying22 (i:=Tryz.t3) kr fR λf h _ j c=>nA<|qV 1<|qO Z<|aI c zeroValue103 λd _ c=>nA<|qO Z<|bP c 0 Z [I w0,I h0,I g,.slice (At f 0) ((w0*h0).toNat) ((w0*h0).toNat)] λ_ c=>nA<|qN<|mI 0 Z<|⟨(d,g,(At f 0),h,m),bR,((c.pick 2 Z).aj 3 Z),Y,Y,j⟩
   exact qO Z<|aI l zeroValue103 λj _ c=>nA<|qO Z<|gC (kl:=.i64) (kc:=.i64) (enc:=ca) (sz:=1) (nb:=8) c 0 (w0*h0).toNat (w0*h0) (Y:(w0*h0)=(((w0*h0).toNat:Nat):Int)) underlying22 (i:=Tryz.t3) kr fR λd f _ h c=>nA<|qV 1<|qO Z<|bP c 1 Z [I w0,I h0,I g,.slice (At d 0) ((w0*h0).toNat) ((w0*h0).toNat)] λ_ c=>nA<|qN<|mI 0 Z<|⟨(j,g,(At d 0),f,m),bR,((c.az [1,2]).aj 3 Z),Y,Y,h⟩
  ·refine qO Z<|gC (kl:=.i64) (kc:=.i64) (enc:=ca) (sz:=1) (nb:=8) s 0 (w0*h0).toNat (w0*h0) (Y:(w0*h0)=(((w0*h0).toNat:Nat):Int)) underlying22 (i:=Tryz.t3) kr fR λl o _ r j=>nA<|qF ?_ ?_;rotate_left
   ·exact qO Z<|aI j zeroValue103 λm _ c=>nA<|qO Z<|(by have d:=(c.pick 4 Z);refine cZ (bQ (D.fl 4) Y d.aQ (bl.ao (bl.dO (enc:=ca) (sz:=1) (xs:=[255,255,65535,1,7]) (λ_=>(by rfl)) 5 2 Z Z Z Y)) Y Y) ?_;rintro _ _⟨d,rfl,f,h,_,c⟩;have g:=c.ak;have c:(d:Int)=255\/(d:Int)=255\/(d:Int)=65535\/(d:Int)=1\/(d:Int)=7:=(by simpa using f);exact nA<|qV 1<|qO Z<|bP g 1 Z [I w0,I h0,I d,.slice (At l 0) ((w0*h0).toNat) ((w0*h0).toNat)] λ_ c=>nA<|qN<|mI 0 Z<|⟨(m,d,(At l 0),o,h),bR,(c.aj 3 Z),Y,Y,r⟩)
   refine qO Z ?_;have c:=(j.pick 3 Z);refine cZ (bQ (D.fl 3) Y c.aQ (bl.ao (bl.dO (enc:=ca) (sz:=1) (xs:=[255,255,65535,1,7]) (λ_=>(by rfl)) 5 1 Z Z Z Y)) Y Y) ?_;rintro _ _⟨d,rfl,f,h,_,c⟩;have g:=c.ak;have c:(d:Int)=255\/(d:Int)=255\/(d:Int)=65535\/(d:Int)=1\/(d:Int)=7:=by simpa using f
   exact nA<|qV 1<|qO Z<|aI g zeroValue103 λf _ c=>nA<|qO Z<|bP c 0 Z [I w0,I h0,I d,.slice (At l 0) ((w0*h0).toNat) ((w0*h0).toNat)] λ_ c=>nA<|qN<|mI 0 Z<|⟨(f,d,(At l 0),o,h),bR,((c.pick 1 Z).aj 3 Z),Y,Y,r⟩
  refine qO Z<|aI s zeroValue103 λo _ l=>nA<|qF ?_ ?_
  ·exact qO Z<|(by have c:=(l.pick 3 Z);refine cZ (bQ (D.fl 3) Y c.aQ (bl.ao (bl.dO (enc:=ca) (sz:=1) (xs:=[255,255,65535,1,7]) (λ_=>(by rfl)) 5 1 Z Z Z Y)) Y Y) ?_;rintro _ _⟨d,rfl,f,j,_,c⟩;have g:=c.ak;have c:(d:Int)=255\/(d:Int)=255\/(d:Int)=65535\/(d:Int)=1\/(d:Int)=7:=(by simpa using f);exact nA<|qO Z<|gC (kl:=.i64) (kc:=.i64) (enc:=ca) (sz:=1) (nb:=8) g 0 (w0*h0).toNat (w0*h0) (Y:(w0*h0)=(((w0*h0).toNat:Nat):Int)) underlying22 (i:=Tryz.t3) kr fR λf g _ h c=>nA<|qV 1<|qO Z<|bP c 2 Z [I w0,I h0,I d,.slice (At f 0) ((w0*h0).toNat) ((w0*h0).toNat)] λ_ c=>nA<|qN<|mI 0 Z<|⟨(o,d,(At f 0),g,j),bR,((c.az [2,2]).aj 3 Z),Y,Y,h⟩)
  refine qO Z<|gC (kl:=.i64) (kc:=.i64) (enc:=ca) (sz:=1) (nb:=8) l 0 (w0*h0).toNat (w0*h0) (Y:(w0*h0)=(((w0*h0).toNat:Nat):Int)) underlying22 (i:=Tryz.t3) kr fR λj l _ m c=>nA<|qO Z ?_;have d:=(c.pick 4 Z);refine cZ (bQ (D.fl 4) Y d.aQ (bl.ao (bl.dO (enc:=ca) (sz:=1) (xs:=[255,255,65535,1,7]) (λ_=>(by rfl)) 5 2 Z Z Z Y)) Y Y) ?_;rintro _ _⟨d,rfl,f,h,_,c⟩;have g:=c.ak;have c:(d:Int)=255\/(d:Int)=255\/(d:Int)=65535\/(d:Int)=1\/(d:Int)=7:=by simpa using f
  exact nA<|qV 1<|qO Z<|bP g 2 Z [I w0,I h0,I d,.slice (At j 0) ((w0*h0).toNat) ((w0*h0).toNat)] λ_ c=>nA<|qN<|mI 0 Z<|⟨(o,d,(At j 0),l,h),bR,((c.az [2,1]).aj 3 Z),Y,Y,m⟩
 ·refine qO Z<|gC (kl:=.i64) (kc:=.i64) (enc:=ca) (sz:=1) (nb:=8) t 0 (w0*h0).toNat (w0*h0) (Y:(w0*h0)=(((w0*h0).toNat:Nat):Int)) underlying22 (i:=Tryz.t3) kr fR λm o _ r j=>nA<|qF ?_ ?_;rotate_left
  ·exact qO Z<|aI j zeroValue103 λl _ c=>nA<|qO Z<|ec c #[I 255,I 255,I 65535,I 1,I 7] 3 λ_ _ c=>nA<|qO Z<|(by have d:=(c.pick 4 Z);refine cZ (bQ (D.fl 4) Y d.aQ (bl.ao (bl.dO (enc:=ca) (sz:=1) (xs:=[255,255,65535,1,7]) (λ_=>(by rfl)) 5 0 Z Z Z Y)) Y Y) ?_;rintro _ _⟨d,rfl,f,h,_,c⟩;have g:=c.ak;have c:(d:Int)=255\/(d:Int)=255\/(d:Int)=65535\/(d:Int)=1\/(d:Int)=7:=(by simpa using f);exact nA<|qV 1<|qO Z<|bP g 2 Z [I w0,I h0,I d,.slice (At m 0) ((w0*h0).toNat) ((w0*h0).toNat)] λ_ c=>nA<|qN<|mI 0 Z<|⟨(l,d,(At m 0),o,h),bR,(c.aj 1 Z),Y,Y,r⟩)
  refine qO Z<|ec j #[I 255,I 255,I 65535,I 1,I 7] 3 λ_ _ j=>nA<|qF ?_ ?_;rotate_left
  ·exact qO Z<|aI j zeroValue103 λl _ c=>nA<|qO Z<|(by have d:=(c.pick 4 Z);refine cZ (bQ (D.fl 4) Y d.aQ (bl.ao (bl.dO (enc:=ca) (sz:=1) (xs:=[255,255,65535,1,7]) (λ_=>(by rfl)) 5 1 Z Z Z Y)) Y Y) ?_;rintro _ _⟨d,rfl,f,h,_,c⟩;have g:=c.ak;have c:(d:Int)=255\/(d:Int)=255\/(d:Int)=65535\/(d:Int)=1\/(d:Int)=7:=(by simpa using f);exact nA<|qV 1<|qO Z<|bP g 1 Z [I w0,I h0,I d,.slice (At m 0) ((w0*h0).toNat) ((w0*h0).toNat)] λ_ c=>nA<|qN<|mI 0 Z<|⟨(l,d,(At m 0),o,h),bR,(c.aj 2 Z),Y,Y,r⟩)
  refine qO Z ?_;have c:=(j.pick 3 Z);refine cZ (bQ (D.fl 3) Y c.aQ (bl.ao (bl.dO (enc:=ca) (sz:=1) (xs:=[255,255,65535,1,7]) (λ_=>(by rfl)) 5 0 Z Z Z Y)) Y Y) ?_;rintro _ _⟨d,rfl,f,h,_,c⟩;have g:=c.ak;have c:(d:Int)=255\/(d:Int)=255\/(d:Int)=65535\/(d:Int)=1\/(d:Int)=7:=by simpa using f
  exact nA<|qV 1<|qO Z<|aI g zeroValue103 λf _ c=>nA<|qO Z<|bP c 0 Z [I w0,I h0,I d,.slice (At m 0) ((w0*h0).toNat) ((w0*h0).toNat)] λ_ c=>nA<|qN<|mI 0 Z<|⟨(f,d,(At m 0),o,h),bR,((c.pick 1 Z).aj 2 Z),Y,Y,r⟩
 refine qO Z<|aI t zeroValue103 λr _ l=>nA<|qF ?_ ?_;rotate_left
 ·exact qO Z<|gC (kl:=.i64) (kc:=.i64) (enc:=ca) (sz:=1) (nb:=8) l 0 (w0*h0).toNat (w0*h0) (Y:(w0*h0)=(((w0*h0).toNat:Nat):Int)) underlying22 (i:=Tryz.t3) kr fR λj m _ o c=>nA<|qO Z<|ec c #[I 255,I 255,I 65535,I 1,I 7] 3 λ_ _ c=>nA<|qO Z<|(by have d:=(c.pick 4 Z);refine cZ (bQ (D.fl 4) Y d.aQ (bl.ao (bl.dO (enc:=ca) (sz:=1) (xs:=[255,255,65535,1,7]) (λ_=>(by rfl)) 5 0 Z Z Z Y)) Y Y) ?_;rintro _ _⟨d,rfl,f,h,_,c⟩;have g:=c.ak;have c:(d:Int)=255\/(d:Int)=255\/(d:Int)=65535\/(d:Int)=1\/(d:Int)=7:=(by simpa using f);exact nA<|qV 1<|qO Z<|bP g 3 Z [I w0,I h0,I d,.slice (At j 0) ((w0*h0).toNat) ((w0*h0).toNat)] λ_ c=>nA<|qN<|mI 0 Z<|⟨(r,d,(At j 0),m,h),bR,((c.az [3,1]).aj 2 Z),Y,Y,o⟩)
 refine qO Z<|ec l #[I 255,I 255,I 65535,I 1,I 7] 3 λ_ _ m=>nA<|qF ?_ ?_;rotate_left
 ·exact qO Z<|gC (kl:=.i64) (kc:=.i64) (enc:=ca) (sz:=1) (nb:=8) m 0 (w0*h0).toNat (w0*h0) (Y:(w0*h0)=(((w0*h0).toNat:Nat):Int)) underlying22 (i:=Tryz.t3) kr fR λj l _ o c=>nA<|qO Z<|(by have d:=(c.pick 4 Z);refine cZ (bQ (D.fl 4) Y d.aQ (bl.ao (bl.dO (enc:=ca) (sz:=1) (xs:=[255,255,65535,1,7]) (λ_=>(by rfl)) 5 1 Z Z Z Y)) Y Y) ?_;rintro _ _⟨d,rfl,f,h,_,c⟩;have g:=c.ak;have sa:(d:Int)=255\/(d:Int)=255\/(d:Int)=65535\/(d:Int)=1\/(d:Int)=7:=(by simpa using f);exact nA<|qV 1<|qO Z<|bP g 3 Z [I w0,I h0,I d,.slice (At j 0) ((w0*h0).toNat) ((w0*h0).toNat)] λ_ c=>nA<|qN<|mI 0 Z<|⟨(r,d,(At j 0),l,h),bR,((c.az [3,1]).aj 3 Z),Y,Y,o⟩)
 refine qO Z ?_;have c:=(m.pick 3 Z);refine cZ (bQ (D.fl 3) Y c.aQ (bl.ao (bl.dO (enc:=ca) (sz:=1) (xs:=[255,255,65535,1,7]) (λ_=>(by rfl)) 5 0 Z Z Z Y)) Y Y) ?_;rintro _ _⟨d,rfl,f,j,_,c⟩;have g:=c.ak;have c:(d:Int)=255\/(d:Int)=255\/(d:Int)=65535\/(d:Int)=1\/(d:Int)=7:=by simpa using f
 exact nA<|qO Z<|gC (kl:=.i64) (kc:=.i64) (enc:=ca) (sz:=1) (nb:=8) g 0 (w0*h0).toNat (w0*h0) (Y:(w0*h0)=(((w0*h0).toNat:Nat):Int)) underlying22 (i:=Tryz.t3) kr fR λf g _ h c=>nA<|qV 1<|qO Z<|bP c 3 Z [I w0,I h0,I d,.slice (At f 0) ((w0*h0).toNat) ((w0*h0).toNat)] λ_ c=>nA<|qN<|mI 0 Z<|⟨(r,d,(At f 0),g,j),bR,((c.az [3,2]).aj 3 Z),Y,Y,h⟩
def NF{a:cf}{xs:aR}(g:bl ca 1 [H] a n k xs)(hi:0<=i/\i<=n)(d:X W w (aW p #[.slice a n k,I i] 91::H::F)):
 Calls prog 42 #[Pt p 0] w λe c=>∃(q:ah) (G:af),e=.returned (.agg (au q).toArray)/\(ah.Ok [G] q)/\((1<=q.w/\q.w<=6)/\(1<=q.h/\q.h<=5)/\aO q.v=true/\yS q)/\∃b:Int,(0<=b/\b<=n)/\X W c (aW p #[.slice a n k,I b] 91::G::H::F):=by
 let b:=g.le;refine aq 11 func42 Z<|Q 2<|aI d zeroValue103 λ_ _ b=>JO 6 ?_;let c:=(b.pick 1 Z);refine cZ (bB (g.fl 1) Y c.aQ 6 Y) ?_;rintro _ _⟨f,rfl,_,_,_,h0⟩;let b:=h0.ak;refine aU 1 f<|bf<|cZ (bB (g.fl 1) Y b.aQ 5 Y) ?_;rintro _ _⟨d,rfl,_,_,_,b⟩;let c:=b.ak;refine aU 1 d<|cZ (FU (g.fl 1) Y c.aQ (1+f) (1+d) Y) ?_;rintro _ _⟨c,g,rfl,f,d,_,_,b⟩;exact bP (X.cq b) 2 Z (au c) λ_ b=>my 3 Z<|hD (vs:=[.agg (au c).toArray]) Z (.cons (.cell _ _ _ _ kr (nW b 2 0 (au c) (isAgg103 _) (sizeOf103 _) Z Z Z)) .nil)<|⟨c,g,rfl,f,⟨by let h:=d.1;omega,by let h:=d.2.1;omega,d.2.2⟩,_,Y,(b.aj 2 Z)⟩
def Fl{a:cf}{xs:aR}(D:bl ca 1 [H] a n k xs)(hi:0<=i/\i<=n)(g:X W w (aW p #[.slice a n k,I i] 91::H::F))(n0:Int)(b:1<=n0/\n0<=128):
 Calls prog 81 #[Pt p 0,I n0] w λe f=>∃(d:cf) (c:Nat) (b:Nat) (zs:List bL) (G:af),e=.returned (.slice d c b)/\(bl ff 2 [G] d c b zs)/\(∀z∈zs,bL.Ok [G] z)/\(zs.length<=6/\∀z∈zs,xb z)/\∃b:Int,(0<=b/\b<=n)/\X W f (aW p #[.slice a n k,I b] 91::G::H::F):=by
 have b:=D.le;refine aq 57 func81 Z<|Q 8<|cZ (bB (D.fl 0) Y g.aQ 6 Y) ?_;rintro _ _⟨d,rfl,_,_,_,h1⟩;have b:=h1.ak;refine aU 1 d<|JO 7<|cZ (LJ [] n0 (1+d) 8 b.ao) ?_;rintro _ _⟨J,t,E,C,_,v,u,rfl,B,K,h0,b⟩;have c:=b.cq;clear b;have b:=B.ll;refine JO 11<|have b:=(c.pick 2 Z);cZ (bB (D.fl 2) Y b.aQ 2 Y) ?_;rintro _ _⟨c,rfl,_,l,_,b⟩;have s:=b.ak;refine JO 3<|cE c 0 (λA=>(by refine Q 5<|cZ (Wz [] n0 (1+d) 8 s.ao) ?_;rintro _ _⟨r,q,o,x,c,g,f,rfl,m,y,w0,b⟩;exact by have d:=b.cq;clear b;have b:=m.ll;exact JO 13<|CE c 0 (λj=>RC 10 [.slice J t E]<|(by have b:=(d.ap [0,0]);have c:X W _ (aW p #[.slice a n k,I l] 91::(u++v)::H::F):=X.perm (show X W _ (aW p #[.slice a n k,I l] 91::u::v::H::F) from b) xi;exact⟨_,_,_,C,(u++v),rfl,(B.rd (λp hp=>qo)),(λz hz=>(K z hz).ag mS),⟨by have h:=h0.1;omega,h0.2⟩,_,Y,c⟩)) λj=>RC 9 [.slice r q o]<|(by have b:=((d.pick 2 Z).ap [3,3]);have c:X W _ (aW p #[.slice a n k,I l] 91::(f++g)::H::F):=X.perm (show X W _ (aW p #[.slice a n k,I l] 91::f::g::H::F) from b) xi;exact⟨_,_,_,x,(f++g),rfl,(m.rd (λp hp=>qo)),(λz hz=>(y z hz).ag mS),⟨by have h:=w0.1;omega,w0.2⟩,_,Y,c⟩))) λA=>?_;refine Q 9<|have b:=(s.pick 2 Z);bF [0,1] (γ:=Nat×Int×(List bL)×cf×Nat×Nat×af×af) (λ⟨i,c,zs,A,x,y,g,s⟩ R=>⟨[(10,I i),(6,.slice A x y)],s::g::aW p #[.slice a n k,I c] 91::R,t-i,i<=t/\(∀z∈zs,xb z)/\(zs.length=t)/\(zs.length<=6)/\(0<=c/\c<=n)/\aF ff 247 2 A x y zs g/\(∀z∈zs,bL.Ok [s] z)⟩) (0,l,C,J,t,E,v,u) ⟨(b.pick 2 Z),Y,h0.2,Y,by have h:=h0.1;omega,Y,B,K⟩ ?_;rintro⟨i,c,zs,A,x,y,g,s⟩ V _⟨f,hi,B,b,b,b,u,C⟩;have b:=u.ll;refine Q 9<|CD ((i:Int)<x) (λj=>RC 12 [.slice A x y]<|(by have b:=(f.pick 2 Z);have d:X W _ (aW p #[.slice a n k,I c] 91::(s++g)::H::F):=X.perm (show X W _ (aW p #[.slice a n k,I c] 91::s::g::H::F) from b) xi;exact⟨_,_,_,zs,(s++g),rfl,(u.rd (λp hp=>qo)),(λz hz=>(C z hz).ag mS),⟨Y,B⟩,_,Y,d⟩)) λj=>Q 7<|have b:=(f.pick 2 Z);cZ (bB (D.fl 2) Y b.aQ 4 Y) ?_;rintro _ _⟨c,rfl,_,d,_,b⟩;have f:=b.ak;refine JO 3<|CE c 0 (λb=>Q 5<|aU (i:Int) 1<|bX 2 Z<|⟨(i+1,d,zs,A,x,y,g,s),od,bR,(f.az [2,2]),Y,B,by first|omega|(simp;omega),by first|omega|(simp;omega),Y,u,C⟩) λb=>Q 5<|aU n0 6<|cZ (bB (D.fl 2) Y f.aQ (n0+6) Y) ?_;rintro _ _⟨m,rfl,_,_,_,b⟩;have c:=b.ak;refine dP m 4<|cG<|cZ (bB (D.fl 2) Y c.aQ 4 Y) ?_;rintro _ _⟨d,rfl,_,_,_,b⟩;have c:=b.ak;refine aU 1 d<|cZ (iW (D.fl 2) Y c.aQ (1+d) Y) ?_;rintro _ _⟨l,j,g,o,q,rfl,v,t,r,_,b⟩;have f:=b.cq;have b:=v.ll;exact bf<|i9 u (i:Int) i λc _ _ d _ b=>fj f u b 3 i 0 c (⟨(m-4),⟨l,j,g,o⟩⟩:bL) d (.agg #[I (m-4),.slice l j g]) [I (m-4),.slice l j g] sizeOf247 λ_ c f b=>JO 5<|aU (i:Int) 1<|bX 2 Z<|(by have d:=(b.az [3,3,3]);exact⟨(i+1,r,(zs.set i (⟨(m-4),⟨l,j,g,o⟩⟩:bL)),A,x,y,c,(q++s)),od,bR,(X.perm (cs':=(q++s)::(c::aW p #[.slice a n k,I r] 91::H::F)) d (by simp)),Y,mem_set B ⟨by unfold dT;dsimp only;omega,by have h:=t.1;dsimp only;omega,t.2⟩,by first|omega|(simp;omega),by first|omega|(simp;omega),Y,f,(mem_set (λz hz=>(C z hz).ag mS) ⟨v.ag mS⟩)⟩)
def QX(o:fJ):Prop:=dT o.code/\dT o.arg
def G6{a:cf}{xs:aR}(B:bl ca 1 [H] a n k xs)(hi:0<=i/\i<=n)(m:X W w (aW p #[.slice a n k,I i] 91::H::F))(two:Bool):
 Calls prog 82 #[Pt p 0,.bool two] w λe l=>∃(g:cf) (f:Nat) (d:Nat) (zs:List fJ) (G:af),e=.returned (.slice g f d)/\(bl gA 2 [G] g f d zs)/\(zs.length<=9/\∀z∈zs,QX z)/\∃d:Int,(0<=d/\d<=n)/\X W l (aW p #[.slice a n k,I d] 91::G::H::F):=by
 let d:=B.le;refine aq 55 func82 Z<|Q 8<|ec m #[I 0,I 0] 119 λm _ f=>JO 3<|eQ f 2 [0] (γ:=cf×Nat×Nat×(List fJ)×af×Int) (λ⟨y,v,x,s,t,q⟩ R=>⟨[(5,.slice y v x)],aW p #[.slice a n k,I q] 91::t::R,0,(0<=q/\q<=n)/\aF gA 119 2 y v x s t/\(s.length<=3/\∀z∈s,QX z)⟩) ?_ ?_
 ·refine Q 5<|CB two (λd=>lq 1 Z<|⟨((At m 0),1,1,[(⟨0,0⟩:fJ)],(aW m #[I 0,I 0] 119),i),bR,(f.pick 1 Z),Y,(aF.dO (enc:=gA) (sz:=2) (b:=m) (c:=#[I 0,I 0]) (E:=119) (xs:=[(⟨0,0⟩:fJ)]) fR 1 Z Z Z Y),⟨by simp,(by intro z hz;simp at hz;subst hz;(unfold QX dT;dsimp only;omega))⟩⟩) λd=>Q 4<|ec f #[I 3,I 4,I 5,I 6,I 7,I 8,I 9] 3 λ_ _ d=>let f:=(d.pick 2 Z);cZ (bQ (B.fl 2) Y f.aQ (bl.ao (bl.dO (enc:=ca) (sz:=1) (xs:=[3,4,5,6,7,8,9]) (λ_=>(by rfl)) 7 0 Z Z Z Y)) Y Y) ?_;rintro _ _⟨l,rfl,g,o,_,d⟩;let f:=d.ak;let d:(l:Int)=3\/(l:Int)=4\/(l:Int)=5\/(l:Int)=6\/(l:Int)=7\/(l:Int)=8\/(l:Int)=9:=by simpa using g
  exact bf<|ec f #[I 1,I 0,I l,I 0] 119 λ_ _ d=>dM (nb:=16) d (aF.dO (enc:=gA) (sz:=2) (b:=m) (c:=#[I 0,I 0]) (E:=119) (xs:=[(⟨0,0⟩:fJ)]) fR 1 Z Z Z Y) 3 (bl.dO (enc:=gA) (sz:=2) (xs:=[(⟨1,0⟩:fJ),(⟨l,0⟩:fJ)]) fR 2 0 Z Z Z Y) underlying113 (i:=Tryz.t119) kr fR λd w0 g _ m f=>bX 2 Z<|⟨(d,(1+2),w0,([(⟨0,0⟩:fJ)]++[(⟨1,0⟩:fJ),(⟨l,0⟩:fJ)]),g,o),bR,(f.ap [0,1]),Y,m,⟨by simp,(by intro z hz;simp at hz;rcases hz with rfl|rfl|rfl<;>(unfold QX dT;dsimp only;omega))⟩⟩
 rintro⟨y,v,x,s,t,q⟩ V _⟨f,d,r,q⟩;refine Q 4<|cZ (bB (B.fl 1) Y f.aQ 4 Y) ?_;rintro _ _⟨o,rfl,_,f,_,d⟩;let h1:=d.ak;refine JO 4<|bF [0] (γ:=Nat×Int×Int×(List fJ)×SO) (λ⟨u,j,d,zs,m,A,l,g⟩ R=>⟨[(6,I j),(5,.slice m A l)],g::aW p #[.slice a n k,I d] 91::R,3-u,u<=3/\(∀z∈zs,QX z)/\(zs.length<=3+2*u)/\((u:Int)+j<=3)/\(0<=d/\d<=n)/\aF gA 119 2 m A l zs g⟩) (0,o,f,s,y,v,x,t) ⟨(h1.pick 1 Z),Y,q.2,Y,Y,Y,r⟩ ?_;rintro⟨u,j,d,zs,m,A,l,g⟩ V _⟨f,d,t,d,d,d,s⟩;let d:=s.ll;refine Q 7<|CD (j>0) (λd=>RC 12 [.slice m A l]<|⟨_,_,_,zs,g,rfl,(s.dt (O:=[g]) 0 Z),⟨Y,t⟩,_,Y,(f.pick 1 Z)⟩) λd=>Q 7<|let d:=(f.pick 1 Z);cZ (bB (B.fl 1) Y d.aQ 3 Y) ?_;rintro _ _⟨f,rfl,_,o,_,d⟩;let q:=d.ak;refine JO 9<|cE f 0 (λd=>?_) (λd=>?_);rotate_left
 ·refine Q 6<|cE f 1 (λd=>?_) (λd=>?_);rotate_left
  ·exact Q 3<|ec q #[I 11,I 0] 119 λ_ _ d=>dM (nb:=16) d s 2 (bl.dO (enc:=gA) (sz:=2) (xs:=[(⟨11,0⟩:fJ)]) fR 1 0 Z Z Z Y) underlying113 (i:=Tryz.t119) kr fR λd l g _ m f=>JO 7<|dP j 1<|bX 2 Z<|⟨(u+1,(j-1),o,(zs++[(⟨11,0⟩:fJ)]),d,(A+1),l,g),od,bR,((f.pick 2 Z).aj 1 Z),Y,(by
    intro z hz;rcases acn.1 hz with h|h
    ·exact t z h
    ·simp only[acw,acW,adO] at h;subst h;(unfold QX dT;dsimp only;omega)),by simp;omega,Y,Y,m⟩
  refine Q 3<|cZ (bB (B.fl 1) Y q.aQ 4 Y) ?_;rintro _ _⟨h0,rfl,_,m,_,d⟩
  exact bf<|ec d.ak #[I 10,I h0] 119 λ_ _ d=>dM (nb:=16) d s 2 (bl.dO (enc:=gA) (sz:=2) (xs:=[(⟨10,h0⟩:fJ)]) fR 1 0 Z Z Z Y) underlying113 (i:=Tryz.t119) kr fR λd l g _ o f=>JO 7<|dP j 1<|bX 2 Z<|⟨(u+1,(j-1),m,(zs++[(⟨10,h0⟩:fJ)]),d,(A+1),l,g),od,bR,((f.pick 2 Z).aj 1 Z),Y,(by
   intro z hz;rcases acn.1 hz with h|h
   ·exact t z h
   ·simp only[acw,acW,adO] at h;subst h;(unfold QX dT;dsimp only;omega)),by simp;omega,Y,Y,o⟩
 refine Q 4<|cZ (bB (B.fl 1) Y q.aQ 300 Y) ?_;rintro _ _⟨l,rfl,_,_,_,d⟩;refine dP l 100<|ec d.ak #[I (l-100),I 0,I 3,I (-2)] 3 λ_ _ d=>let f:=(d.pick 1 Z);cZ (bQ (B.fl 2) Y f.aQ (bl.ao (bl.dO (enc:=ca) (sz:=1) (xs:=[(l-100),0,3,-2]) (λ_=>(by rfl)) 4 0 Z Z Z Y)) Y Y) ?_;rintro _ _⟨o,rfl,g,_,_,d⟩;let f:=d.ak;let d:(o:Int)=(l-100)\/(o:Int)=0\/(o:Int)=3\/(o:Int)=(-2):=by simpa using g
 refine cG<|ec f #[I 3,I 4,I 5,I 6,I 7,I 8,I 9] 3 λ_ _ d=>let f:=(d.pick 1 Z);cZ (bQ (B.fl 3) Y f.aQ (bl.ao (bl.dO (enc:=ca) (sz:=1) (xs:=[3,4,5,6,7,8,9]) (λ_=>(by rfl)) 7 0 Z Z Z Y)) Y Y) ?_;rintro _ _⟨f,rfl,l,r,_,d⟩;let g:=d.ak;let d:(f:Int)=3\/(f:Int)=4\/(f:Int)=5\/(f:Int)=6\/(f:Int)=7\/(f:Int)=8\/(f:Int)=9:=by simpa using l
 exact bf<|ec g #[I 2,I o,I f,I 0] 119 λ_ _ d=>dM (nb:=16) d s 4 (bl.dO (enc:=gA) (sz:=2) (xs:=[(⟨2,o⟩:fJ),(⟨f,0⟩:fJ)]) fR 2 0 Z Z Z Y) underlying113 (i:=Tryz.t119) kr fR λd m l _ q g=>JO 7<|dP j 1<|bX 2 Z<|⟨(u+1,(j-1),r,(zs++[(⟨2,o⟩:fJ),(⟨f,0⟩:fJ)]),d,(A+2),m,l),od,bR,((g.pick 4 Z).ap [1,2,2]),Y,(by
  intro z hz;rcases acn.1 hz with h|h
  ·exact t z h
  ·simp only[acw,acW,adO] at h;rcases h with rfl|rfl<;>(unfold QX dT;dsimp only;omega)),by simp;omega,Y,Y,q⟩
def lQ(k:Nat)(q:aA):Prop:=(dT q.aB/\dT q.a/\dT q.b/\dT q.aS/\dT q.bz/\dT q.kW/\dT q.kH/\dT q.shift/\dT q.ed/\dT q.cb/\dT q.aG)/\(q.ad.l.length<=64/\∀z∈q.ad.l,dT z)/\(q.row.l.length<=64/\∀z∈q.row.l,dT z)/\(q.dG.l.length<=64/\∀z∈q.dG.l,dT z)/\(q.x.l.length<=6+k/\∀z∈q.x.l,xb z)/\(q.y.l.length<=6+k/\∀z∈q.y.l,xb z)/\(q.ops.l.length<=9+k/\∀z∈q.ops.l,QX z)
def jf{O:cj}:aA.Ok O fX:=⟨rN,rN,rN,rN,(λz hz=>gO),rN,(λz hz=>gO),rN⟩
def mL{α:Type}{P:α->Prop}{m:Nat}:([]:List α).length<=m/\∀z∈([]:List α),P z:=⟨by simp,λz hz=>gO⟩
def NT{a:cf}{xs:aR}(E:bl ca 1 [H] a n k xs)(hi:0<=i/\i<=n)(j:X W w (aW p #[.slice a n k,I i] 91::H::F))(Xz:Int)(S:aY)(b0:Int)(f:mK S)(g:dT Xz/\dT b0):
 Calls prog 45 #[Pt p 0,I Xz,.agg #[I S.w,I S.h,I S.aG],I b0] w λe d=>∃(q:aA) (G:af),e=.returned (.agg (aL q).toArray)/\(aA.Ok [G] q)/\(lQ 0 q)/\(q.a=Xz/\(q.b=-1\/(q.b=b0/\0<=b0)))/\∃c:Int,(0<=c/\c<=n)/\X W d (aW p #[.slice a n k,I c] 91::G::H::F):=by
 let c:=E.le;let c:=f;unfold mK at c;let c:=g;unfold dT at c;refine aq 126 func45 Z<|Q 2<|eD j [I S.w,I S.h,I S.aG] λ_ _ c=>aI c zeroValue115 λg _ c=>JO 5<|let d:=(c.pick 2 Z);cZ (bB (E.fl 2) Y d.aQ 6 Y) ?_;rintro _ _⟨T,rfl,_,_,_,c⟩;let d:=c.ak;refine aU 1 T<|cG<|cZ (bB (E.fl 2) Y d.aQ 4 Y) ?_;rintro _ _⟨e0,rfl,_,_,_,c⟩;refine cG<|aI c.ak zeroValue115 λf _ c=>bP c 0 Z (aL {fX with aB:=(1+T),a:=Xz,b:=-1,eS:=((e0:Int)==3)}) λ_ c=>JO 5<|ec c #[I 255,I 65535,I 15] 3 λ_ _ c=>let d:=(c.pick 2 Z);cZ (bQ (E.fl 4) Y d.aQ (bl.ao (bl.dO (enc:=ca) (sz:=1) (xs:=[255,65535,15]) (λ_=>(by rfl)) 3 0 Z Z Z Y)) Y Y) ?_;rintro _ _⟨Qz,rfl,d,y4,_,c⟩;let e:=c.ak;let c:(Qz:Int)=255\/(Qz:Int)=65535\/(Qz:Int)=15:=by simpa using d
 refine JO 3<|eQ e 5 [8,9] (γ:=aA×af×Int) (λ⟨q,j,c⟩ R=>⟨[],j::aW p #[.slice a n k,I c] 91::aW f (aL q).toArray 115::aW g (aL fX).toArray 115::R,0,(0<=c/\c<=n)/\aA.Ok [j] q/\lQ 0 q/\(q.a=Xz/\(q.b=-1\/(q.b=b0/\0<=b0)))⟩) ?_ ?_;rotate_left
 ·exact(by rintro⟨q,j,c⟩ V _⟨d,c,c,g,f⟩;exact GC d 3 [1802]<|bP d 3 Z (aL q) λ_ d=>my 3 Z<|hD (vs:=[.agg (aL q).toArray]) Z (.cons (.cell _ _ _ _ kr (nW d 3 0 (aL q) (isAgg115 _) (sizeOf115 _) Z Z Z)) .nil)<|⟨q,j,rfl,c,g,f,_,Y,((d.pick 1 Z).ap [2,2])⟩)
 refine GC e 13 [2]<|cE (1+T) 1 (λc=>?_) (λc=>?_)
 ·refine Q 1<|kA e [1,2,4,5,8,12,14,16,18,20,22] (fb 11 4 2 1<|fn) (pS [0,3,6,7,9,10,11]<| .fk 1 4 (.fk 2 4 (pS [13]<| .ef 4<| .ef 5<| .ef 8<| .ef 12<| .ef 14<|pS [15]<| .ef 16<|pS [17]<| .ef 18<|pS [19]<| .ef 20<|pS [21]<| .ef 22<| .fin) (.ef 2<|pS [13]<| .ef 5<| .ef 8<| .ef 12<| .ef 14<|pS [15]<| .ef 16<|pS [17]<| .ef 18<|pS [19]<| .ef 20<|pS [21]<| .ef 22<| .fin)) (.ef 1<| .ef 2<|pS [13]<| .ef 5<| .ef 8<| .ef 12<| .ef 14<|pS [15]<| .ef 16<|pS [17]<| .ef 18<|pS [19]<| .ef 20<|pS [21]<| .ef 22<| .fin)) λ_ D=>qV 6<|qL 0<|qF ?_ ?_;rotate_left
  ·exact qO Z<|ec D #[I 1,I 3,I 2] 3 λ_ _ c=>nZ c [5]<|qO Z<|ec c #[I 1,I 3,I 2,I 5] 3 λ_ _ c=>nZ c [6]<|qO Z<|(by let d:=(c.pick 2 Z);refine cZ (bQ (E.fl 6) Y d.aQ (bl.ao (bl.dO (enc:=ca) (sz:=1) (xs:=[1,3,2,5]) (λ_=>(by rfl)) 4 0 Z Z Z Y)) Y Y) ?_;rintro _ _⟨t,rfl,f,_,_,c⟩;let d:=c.ak;let c:(t:Int)=1\/(t:Int)=3\/(t:Int)=2\/(t:Int)=5:=(by simpa using f);refine nZ d [6]<|qV 1<|qO Z<|cZ (bQ (E.fl 6) Y d.aQ (bl.ao (bl.dO (enc:=ca) (sz:=1) (xs:=[1,3,2]) (λ_=>(by rfl)) 3 1 Z Z Z Y)) Y Y) ?_;rintro _ _⟨m,rfl,f,_,_,c⟩;let d:=c.ak;let c:(m:Int)=1\/(m:Int)=3\/(m:Int)=2:=(by simpa using f);refine nZ d [6]<|qO Z<|cZ (bB (E.fl 6) Y d.aQ 4 Y) ?_;rintro _ _⟨h1,rfl,_,_,_,c⟩;let d:=c.ak;refine nZ d [6]<|qO Z<|cZ (vc (E.fl 6) Y d.aQ S.aG Y) ?_;rintro _ _⟨v,C,rfl,d,_,_,c⟩;let f:=c.ak;unfold dT at d;refine nA<|qO Z<|eX f 4 Z 6 (I t) λ_ c=>nA<|qV 1<|qO Z<|eX c 4 Z 7 (I m) λ_ c=>nA<|qV 1<|qO Z<|eX c 4 Z 17 (I Qz) λ_ c=>nA<|qV 1<|qO Z<|eX c 4 Z 11 (I h1) λ_ c=>nA<|qV 1<|qO Z<|eX c 4 Z 4 (.agg #[I v,I C]) λ_ c=>nA<|qN<|JX 1 ?_;let J:=el (a:=t) (b:=m) (A:=5) (B:=3) Y Y;refine GC c 6 [4,4]<|ei t m<|cZ (iW (E.fl 6) Y c.aQ (t*m) Y) ?_;rintro _ _⟨j,g,f,r,u,rfl,l,o,s,_,c⟩;let d:=c.cq;let c:=l.ll;exact bf<|eX d 5 Z 8 (.slice j g f) λ_ c=>bX 2 Z<|⟨(({fX with aB:=(1+T),a:=Xz,b:=-1,eS:=((e0:Int)==3),aS:=v,bz:=C,kW:=t,kH:=m,ad:=⟨j,g,f,r⟩,shift:=h1,aG:=Qz}:aA),u,s),bR,((c.pick 1 Z).ap [2,2,2,4]),Y,{jf with ad:=l.ag mS},⟨(by simp only[dT,fX];omega),⟨by let h:=o.1;dsimp only;omega,o.2⟩,mL,mL,mL,mL,mL⟩,⟨rfl,by first|(left;rfl)|(right;exact⟨rfl,Y⟩)⟩⟩)
  refine qO Z<|ec D #[I 1,I 3,I 2,I 5] 3 λ_ _ D=>nZ D [5]<|qF ?_ ?_
  ·exact qO Z<|(by let c:=(D.pick 1 Z);refine cZ (bQ (E.fl 5) Y c.aQ (bl.ao (bl.dO (enc:=ca) (sz:=1) (xs:=[1,3,2,5]) (λ_=>(by rfl)) 4 0 Z Z Z Y)) Y Y) ?_;rintro _ _⟨h0,rfl,f,_,_,c⟩;let d:=c.ak;let c:(h0:Int)=1\/(h0:Int)=3\/(h0:Int)=2\/(h0:Int)=5:=(by simpa using f);refine nZ d [5]<|qV 1<|qO Z<|ec d #[I 1,I 3,I 2] 3 λ_ _ c=>nZ c [6]<|qO Z ?_;let d:=(c.pick 1 Z);refine cZ (bQ (E.fl 6) Y d.aQ (bl.ao (bl.dO (enc:=ca) (sz:=1) (xs:=[1,3,2]) (λ_=>(by rfl)) 3 0 Z Z Z Y)) Y Y) ?_;rintro _ _⟨m,rfl,f,_,_,c⟩;let d:=c.ak;let c:(m:Int)=1\/(m:Int)=3\/(m:Int)=2:=(by simpa using f);refine nZ d [6]<|qO Z<|cZ (bB (E.fl 6) Y d.aQ 4 Y) ?_;rintro _ _⟨C,rfl,_,_,_,c⟩;let d:=c.ak;refine nZ d [6]<|qO Z<|cZ (vc (E.fl 6) Y d.aQ S.aG Y) ?_;rintro _ _⟨u,v,rfl,d,_,_,c⟩;let f:=c.ak;unfold dT at d;refine nA<|qO Z<|eX f 4 Z 6 (I h0) λ_ c=>nA<|qV 1<|qO Z<|eX c 4 Z 7 (I m) λ_ c=>nA<|qV 1<|qO Z<|eX c 4 Z 17 (I Qz) λ_ c=>nA<|qV 1<|qO Z<|eX c 4 Z 11 (I C) λ_ c=>nA<|qV 1<|qO Z<|eX c 4 Z 4 (.agg #[I u,I v]) λ_ c=>nA<|qN<|JX 1 ?_;let J:=el (a:=h0) (b:=m) (A:=5) (B:=3) Y Y;refine GC c 6 [4,4]<|ei h0 m<|cZ (iW (E.fl 6) Y c.aQ (h0*m) Y) ?_;rintro _ _⟨f,j,g,o,t,rfl,l,r,s,_,c⟩;let d:=c.cq;let c:=l.ll;exact bf<|eX d 5 Z 8 (.slice f j g) λ_ c=>bX 2 Z<|⟨(({fX with aB:=(1+T),a:=Xz,b:=-1,eS:=((e0:Int)==3),aS:=u,bz:=v,kW:=h0,kH:=m,ad:=⟨f,j,g,o⟩,shift:=C,aG:=Qz}:aA),t,s),bR,((c.pick 1 Z).ap [2,2,2,4]),Y,{jf with ad:=l.ag mS},⟨(by simp only[dT,fX];omega),⟨by let h:=r.1;dsimp only;omega,r.2⟩,mL,mL,mL,mL,mL⟩,⟨rfl,by first|(left;rfl)|(right;exact⟨rfl,Y⟩)⟩⟩)
  refine qO Z<|ec D #[I 1,I 3,I 2] 3 λ_ _ c=>nZ c [6]<|qO Z<|let d:=(c.pick 2 Z);cZ (bQ (E.fl 6) Y d.aQ (bl.ao (bl.dO (enc:=ca) (sz:=1) (xs:=[1,3,2,5]) (λ_=>(by rfl)) 4 1 Z Z Z Y)) Y Y) ?_;rintro _ _⟨s,rfl,f,_,_,c⟩;let d:=c.ak;let c:(s:Int)=1\/(s:Int)=3\/(s:Int)=2\/(s:Int)=5:=by simpa using f
  refine nZ d [6]<|qV 1<|qO Z<|cZ (bQ (E.fl 6) Y d.aQ (bl.ao (bl.dO (enc:=ca) (sz:=1) (xs:=[1,3,2]) (λ_=>(by rfl)) 3 0 Z Z Z Y)) Y Y) ?_;rintro _ _⟨m,rfl,f,_,_,c⟩;let d:=c.ak;let c:(m:Int)=1\/(m:Int)=3\/(m:Int)=2:=by simpa using f
  refine nZ d [6]<|qO Z<|cZ (bB (E.fl 6) Y d.aQ 4 Y) ?_;rintro _ _⟨D,rfl,_,_,_,c⟩;let d:=c.ak;refine nZ d [6]<|qO Z<|cZ (vc (E.fl 6) Y d.aQ S.aG Y) ?_;rintro _ _⟨v,C,rfl,d,_,_,c⟩;let f:=c.ak;unfold dT at d;refine nA<|qO Z<|eX f 4 Z 6 (I s) λ_ c=>nA<|qV 1<|qO Z<|eX c 4 Z 7 (I m) λ_ c=>nA<|qV 1<|qO Z<|eX c 4 Z 17 (I Qz) λ_ c=>nA<|qV 1<|qO Z<|eX c 4 Z 11 (I D) λ_ c=>nA<|qV 1<|qO Z<|eX c 4 Z 4 (.agg #[I v,I C]) λ_ c=>nA<|qN<|JX 1<|let J:=el (a:=s) (b:=m) (A:=5) (B:=3) Y Y;GC c 6 [4,4]<|ei s m<|cZ (iW (E.fl 6) Y c.aQ (s*m) Y) ?_;rintro _ _⟨j,g,f,r,u,rfl,l,o,t,_,c⟩;let d:=c.cq;let c:=l.ll;exact bf<|eX d 5 Z 8 (.slice j g f) λ_ c=>bX 2 Z<|⟨(({fX with aB:=(1+T),a:=Xz,b:=-1,eS:=((e0:Int)==3),aS:=v,bz:=C,kW:=s,kH:=m,ad:=⟨j,g,f,r⟩,shift:=D,aG:=Qz}:aA),u,t),bR,((c.pick 1 Z).ap [2,2,2,4]),Y,{jf with ad:=l.ag mS},⟨(by simp only[dT,fX];omega),⟨by let h:=o.1;dsimp only;omega,o.2⟩,mL,mL,mL,mL,mL⟩,⟨rfl,by first|(left;rfl)|(right;exact⟨rfl,Y⟩)⟩⟩
 refine Q 6<|cE (1+T) 2 (λU=>bJ e [2,4,7,9,12,14,18,20,22,24,26,28,30] (fb 17 4 2 1<|fn) [0,1,5,6,10,11,13,15,16,17,2,3,4,19,7,8,9,12,14,18,20,21,22,23,24,25,26,27,28,29,30] λ_ c=>wV 9<|wL 0<|wO Z<|cZ (bB (E.fl 4) Y c.aQ 4 Y)<|(by rintro _ _⟨f,rfl,_,_,_,c⟩;let d:=c.ak;refine nZ d [4]<|mD 1 f<|wO Z<|cZ (iW (E.fl 4) Y d.aQ (1+f) Y) ?_;rintro _ _⟨J,D,C,Oz,P,rfl,K,L,_,_,c⟩;let d:=c.cq;let c:=K.ll;refine nZ d [5]<|wV 1<|wO Z<|cZ (bB (E.fl 5) Y d.aQ 4 Y) ?_;rintro _ _⟨f,rfl,_,_,_,c⟩;let d:=c.ak;refine nZ d [5]<|mD 1 f<|wO Z<|cZ (iW (E.fl 5) Y d.aQ (1+f) Y) ?_;rintro _ _⟨r,t,s,M,N,rfl,u,v,_,_,c⟩;let d:=c.cq;let c:=u.ll;refine nZ d [6]<|wO Z<|cZ (bB (E.fl 6) Y d.aQ 3 Y) ?_;rintro _ _⟨m,rfl,_,_,_,c⟩;let d:=c.ak;refine nZ d [6]<|wO Z<|cZ (bB (E.fl 6) Y d.aQ 4 Y) ?_;rintro _ _⟨l,rfl,_,_,_,c⟩;let d:=c.ak;refine nZ d [6]<|wO Z<|cZ (vc (E.fl 6) Y d.aQ S.aG Y) ?_;rintro _ _⟨g,j,rfl,d,o,_,c⟩;let f:=c.ak;unfold dT at d;exact nA<|wO Z<|eX f 4 Z 9 (.slice J D C) λ_ c=>nA<|wV 1<|wO Z<|eX c 4 Z 10 (.slice r t s) λ_ c=>nA<|wV 1<|wO Z<|eX c 4 Z 17 (I Qz) λ_ c=>nA<|wV 1<|wO Z<|eX c 4 Z 11 (I m) λ_ c=>nA<|wV 1<|wO Z<|eX c 4 Z 12 (I l) λ_ c=>nA<|wV 1<|wO Z<|eX c 4 Z 4 (.agg #[I g,I j]) λ_ c=>nA<|wN<|mI 1 Z<|(by let d:=((c.az [1,2]).ap [3,5]);exact⟨(({fX with aB:=(1+T),a:=Xz,b:=-1,eS:=((e0:Int)==3),aS:=g,bz:=j,row:=⟨J,D,C,Oz⟩,dG:=⟨r,t,s,M⟩,shift:=m,ed:=l,aG:=Qz}:aA),(P++N),o),bR,d.jB,Y,{jf with row:=K.ag mS,dG:=u.ag mS},⟨(by simp only[dT,fX];omega),mL,⟨by let h:=L.1;dsimp only;omega,L.2⟩,⟨by let h:=v.1;dsimp only;omega,v.2⟩,mL,mL,mL⟩,⟨rfl,by first|(left;rfl)|(right;exact⟨rfl,Y⟩)⟩⟩))) λU=>?_;refine Q 6<|cE (1+T) 3 (λU=>bJ e [3,7,12,14,16,18,20,22,24] (fb 2 4 0 1<|fb 6 4 1 1<|fb 11 4 2 1<|fn) [0,1,4,5,8,9,10,2,6,11,3,13,7,12,14,15,16,17,18,19,20,21,22,23,24] λ_ c=>wV 7<|wL 0<|wL 1<|wL 2<|wO Z<|cZ (Fl (E.fl 4) Y c.aQ S.w Y)<|(by rintro _ _⟨u,t,s,N,Oz,rfl,C,P,K,_,_,c⟩;let d:=c.cq;let c:=C.ll;refine nZ d [5,5]<|wV 1<|wO Z<|cZ (Fl (E.fl 5) Y d.aQ S.h Y) ?_;rintro _ _⟨o,m,l,J,L,rfl,r,M,D,_,_,c⟩;let d:=c.cq;let c:=r.ll;refine nZ d [6]<|wO Z<|cZ (vc (E.fl 6) Y d.aQ S.aG Y) ?_;rintro _ _⟨g,j,rfl,d,v,_,c⟩;let f:=c.ak;unfold dT at d;exact nA<|wO Z<|eX f 4 Z 13 (.slice u t s) λ_ c=>nA<|wV 1<|wO Z<|eX c 4 Z 14 (.slice o m l) λ_ c=>nA<|wV 1<|wO Z<|eX c 4 Z 17 (I Qz) λ_ c=>nA<|wV 1<|wO Z<|eX c 4 Z 11 (I 8) λ_ c=>nA<|wV 1<|wO Z<|eX c 4 Z 12 (I 8) λ_ c=>nA<|wV 1<|wO Z<|eX c 4 Z 4 (.agg #[I g,I j]) λ_ c=>nA<|wN<|mI 1 Z<|(by let d:=((c.az [1,2]).ap [3,5]);exact⟨(({fX with aB:=(1+T),a:=Xz,b:=-1,eS:=((e0:Int)==3),aS:=g,bz:=j,shift:=8,ed:=8,x:=⟨u,t,s,N⟩,y:=⟨o,m,l,J⟩,aG:=Qz}:aA),(Oz++L),v),bR,d.jB,Y,{jf with x:=C.ag mS,xD:=λz hz=>(P z hz).ag mS,y:=r.ag mS,yD:=λz hz=>(M z hz).ag mS},⟨(by simp only[dT,fX];omega),mL,mL,mL,⟨by let h:=K.1;dsimp only;omega,K.2⟩,⟨by let h:=D.1;dsimp only;omega,D.2⟩,mL⟩,⟨rfl,by first|(left;rfl)|(right;exact⟨rfl,Y⟩)⟩⟩))) λU=>?_;refine Q 6<|cE (1+T) 4 (λl=>Q 2<|ec e #[I 4,I 1,I 7] 3 λ_ _ c=>(by let d:=(c.pick 1 Z);refine cZ (bQ (E.fl 5) Y d.aQ (bl.ao (bl.dO (enc:=ca) (sz:=1) (xs:=[4,1,7]) (λ_=>(by rfl)) 3 0 Z Z Z Y)) Y Y) ?_;rintro _ _⟨d,rfl,g,j,_,c⟩;let f:=c.ak;let c:(d:Int)=4\/(d:Int)=1\/(d:Int)=7:=(by simpa using g);exact bf<|eX f 3 Z 15 (I d) λ_ c=>bX 2 Z<|(by let f:=(c.ap [1,1,3]);exact⟨(({fX with aB:=(1+T),a:=Xz,b:=-1,eS:=((e0:Int)==3),cb:=d}:aA),[],j),bR,(X.bU f),Y,{jf with},⟨(by simp only[dT,fX];omega),mL,mL,mL,mL,mL,mL⟩,⟨rfl,by first|(left;rfl)|(right;exact⟨rfl,Y⟩)⟩⟩))) λl=>?_;refine Q 6<|CE (1+T) 6 (λd=>lq 2 Z<|(by let c:=(e.ap [1,3]);exact⟨(({fX with aB:=(1+T),a:=Xz,b:=-1,eS:=((e0:Int)==3)}:aA),[],y4),bR,(X.bU c),Y,{jf with},⟨(by simp only[dT,fX];omega),mL,mL,mL,mL,mL,mL⟩,⟨rfl,by first|(left;rfl)|(right;exact⟨rfl,Y⟩)⟩⟩)) λd=>Q 6<|SD 110 (b0>=0) (λs=>GO e 14 [2]<|cZ (G6 (E.fl 4) Y e.aQ false)<|(by rintro _ _⟨j,g,f,m,r,rfl,w0,o,l,_,c⟩;let d:=c.cq;let c:=w0.ll;exact cG<|eX d 3 Z 16 (.slice j g f) λ_ c=>bf<|eX c 3 Z 17 (I Qz) λ_ c=>bX 2 Z<|⟨(({fX with aB:=(1+T),a:=Xz,b:=-1,eS:=((e0:Int)==3),ops:=⟨j,g,f,m⟩,aG:=Qz}:aA),r,l),bR,((c.pick 1 Z).ap [2,4]),Y,{jf with ops:=w0.ag mS},⟨(by simp only[dT,fX];omega),mL,mL,mL,mL,mL,⟨by let h:=o.1;dsimp only;omega,o.2⟩⟩,⟨rfl,by first|(left;rfl)|(right;exact⟨rfl,Y⟩)⟩⟩)) λs=>bf<|gY<|cZ (bB (E.fl 4) Y e.aQ 2 Y) ?_;rintro _ _⟨d,rfl,_,_,_,c⟩;let t:=c.ak;refine JO 4<|CE d 0 (λu=>GC t 7 [2]<|cZ (G6 (E.fl 4) Y t.aQ false)<|(by rintro _ _⟨j,g,f,o,s,rfl,l,r,m,_,ha⟩;let d:=ha.cq;let c:=l.ll;exact cG<|eX d 3 Z 16 (.slice j g f) λ_ c=>bf<|eX c 3 Z 17 (I Qz) λ_ c=>bX 2 Z<|⟨(({fX with aB:=(1+T),a:=Xz,b:=-1,eS:=((e0:Int)==3),ops:=⟨j,g,f,o⟩,aG:=Qz}:aA),s,m),bR,((c.pick 1 Z).ap [2,4]),Y,{jf with ops:=l.ag mS},⟨(by simp only[dT,fX];omega),mL,mL,mL,mL,mL,⟨by let h:=r.1;dsimp only;omega,r.2⟩⟩,⟨rfl,by first|(left;rfl)|(right;exact⟨rfl,Y⟩)⟩⟩)) λu=>Q 3<|eX t 2 Z 2 (I b0) λ_ c=>GO c 7 [2]<|cZ (G6 (E.fl 4) Y c.aQ (decide ((b0:Int)>=0))) ?_;rintro _ _⟨j,g,f,o,s,rfl,l,r,m,_,c⟩;let d:=c.cq;let c:=l.ll;exact cG<|eX d 3 Z 16 (.slice j g f) λ_ c=>bf<|eX c 3 Z 17 (I Qz) λ_ sa=>bX 2 Z<|⟨(({fX with aB:=(1+T),a:=Xz,b:=b0,eS:=((e0:Int)==3),ops:=⟨j,g,f,o⟩,aG:=Qz}:aA),s,m),bR,((sa.pick 1 Z).ap [2,4]),Y,{jf with ops:=l.ag mS},⟨(by simp only[dT,fX];omega),mL,mL,mL,mL,mL,⟨by let h:=r.1;dsimp only;omega,r.2⟩⟩,⟨rfl,by first|(left;rfl)|(right;exact⟨rfl,Y⟩)⟩⟩
def KG{a:cf}{xs:aR}(j:bl ca 1 [H] a n k xs)(hi:0<=i/\i<=n)(q:X W w (aW p #[.slice a n k,I i] 91::H::F))(l:eK)(o:eK.Ok [H] l)(B:List aY)(m:Good (l.aa.l.map ah.v) (l.ae.l.map aA.v) l.ba)(u:kO ((l.aa.l.map ah.v).map cd) (l.ae.l.map aA.v)=some B):
 Calls prog 44 #[Pt p 0,.agg (bG l).toArray] w λe g=>∃(d:cf) (c:Nat) (b:Nat) (G:af),e=.returned (.slice d c b)/\(bl gN 3 [G] d c b B)/\∃b:Int,(0<=b/\b<=n)/\X W g (aW p #[.slice a n k,I b] 91::G::H::F):=by
 let b:=o.aa.le;have c:=o.aa.len;let b:=o.ae.le;have d:=o.ae.len;let b:=o.aK.ll;let b:=j.le;let R0:(l.aa.l.map ah.v).length=l.aa.n:=by simp[c]
 let D:(l.ae.l.map aA.v).length=l.ae.n:=by simp[d]
 let b:=m.ni;let b:=m.ns;refine aq 40 func44 Z<|Q 2<|eD q (bG l) λC _ y=>GO y 12 [0]<|CE (l.ae.n:Int) 0 (λv=>Q 4<|ec y #[I 0] 3 λq _ b=>bf<|eX b 1 Z 2 (.slice (At q 0) 1 1) λ_ h0=>GO h0 5 [401]<|cZ (xT (⟨l.aa,l.ae,⟨(At q 0),1,1,[0]⟩,l.ba⟩:eK) ⟨(o.aa.fl 3),(λz hz=>(o.gf z hz).ag (mF 3)),(o.ae.fl 3),(λz hz=>(o.dC z hz).ag (mF 3)),(bl.ao (bl.dO (enc:=ca) (sz:=1) (xs:=[0]) (λ_=>(by rfl)) 1 0 Z Z Z Y))⟩ od h0.ao)<|(by rintro _ _⟨g,d,c,s,rfl,j,b⟩;let r:=b.ak;let b:=j.ll;refine RO 16 [.slice g d c] ?_;let A:B=(db (wH (l.aa.l.map ah.v) (l.ae.l.map aA.v) l.ba)).1:=(by rw[(It m (by rw[D];omega)).1 B u]);let t:=j;let x:((db (⟨l.aa,l.ae,⟨(At q 0),1,1,[0]⟩,l.ba⟩:eK).v).1)=B:=A.symm;rw[x] at t;exact⟨_,_,_,s,rfl,t,_,Y,((r.pick 3 Z).ap [2,2])⟩)) λv=>?_;refine Q 12<|bF [3] (γ:=Nat×Int×(List aY)×SO) (λ⟨i,s,m,d,v,c,j⟩ R=>⟨[(6,I i),(5,.slice d v c)],j::aW C (bG l).toArray 41::aW p #[.slice a n k,I s] 91::R,l.aa.n-i,i<=l.aa.n/\(m=((l.aa.l.map ah.v).take i).map cd)/\(m.length=i)/\(0<=s/\s<=n)/\aF gN 109 3 d v c m j⟩) (0,i,[],none,0,0,[]) ⟨(X.bU y),Y,by rfl,by rfl,Y,(aF.nil (enc:=gN) (E:=109) (sz:=3) fR)⟩ ?_;rintro⟨i,s,m,d,v,c,j⟩ V _⟨g,hi,y,b,b,r⟩;let b:=r.ll;exact GC g 10 [1]<|CD ((i:Int)<l.aa.n) (λw0=>RC 13 [.slice d v c]<|(by let A:B=m:=(by let h:=u;rw[show(l.ae.l.map aA.v)=[] from acZ (by rw[D];omega)] at h;simp only[kO,adh] at h;rw[<-h,y,acj (by rw[R0];omega)]);let t:=(r.dt (O:=[j]) 0 Z);let x:m=B:=A.symm;rw[x] at t;exact⟨_,_,_,j,rfl,t,_,Y,((g.pick 2 Z).aj 2 Z)⟩)) λw0=>GC g 9 [1]<|kQ o.aa i λc _ _ q b=>lv g (b.up 3 Z) 0 (au c)<|cS (PP c ⟨(bl.ao ((o.gf c (ab8 q)).bM.up 3 (by rfl)))⟩ g.ao) λ_ b=>ec b #[I c.w,I c.h,I c.aG] 109 λ_ _ b=>dM (nb:=24) b r 1 (bl.dO (enc:=gN) (sz:=3) (xs:=[(⟨c.w,c.h,c.aG⟩:aY)]) fR 1 0 Z Z Z Y) underlying106 (i:=Tryz.t109) kr fR λb j g _ l d=>JO 6<|aU (i:Int) 1<|bX 2 Z<|⟨(i+1,s,(m++[(⟨c.w,c.h,c.aG⟩:aY)]),b,(v+1),j,g),od,bR,(d.aj 0 Z),Y,by rw[bY (cg (f:=ah.v) q),acB,<-y];rfl,by simp;omega,Y,l⟩
end
end Go.Proofs.YtmfebppagcejcaaGreat
namespace Go.Proofs.YtmfebppagcejcaaGreat
open Go Go.E Go.Proofs.Tryz
set_option maxRecDepth 100000
set_option maxHeartbeats 2000000
variable{W w:World}{H:af}{F:cj}
def Hm(z:ah):Prop:=aO z.v=true/\yS z
def Xu(k:Nat)(q:eK):Prop:=(q.aa.l.length<=2/\∀z∈q.aa.l,yS z/\dT z.w/\dT z.h/\dT z.aG)/\(q.ae.l.length<=4/\∀z∈q.ae.l,lQ k z)/\(q.aK.l.length<=2+k/\∀z∈q.aK.l,dT z)/\dT q.ba
def ya{z:ah}(h:Hm z):yS z/\dT z.w/\dT z.h/\dT z.aG:=by
 let h1:=h.1;unfold aO at h1;rw[ach] at h1;let a:=(acy h1.1).1;unfold cU at a;simp only[ah.v] at a;refine⟨h.2,?_,?_,?_⟩<;>unfold dT<;>omega
def zn{l:List ah}(h:∀z∈l,Hm z):(l.map ah.v).all aO=true:=by
 rw[acH];intro x hx;obtain⟨z,hz,rfl⟩:=acG.1 hx;exact(h z hz).1
def Sg{p:Nat}{a:cf}{n k:Nat}{i:Int}{xs:aR}(hR:bl ca 1 [H] a n k xs)(hi:0<=i/\i<=n)(hS:X W w (aW p #[.slice a n k,I i] 91::H::F))(m0:Int)(hm0:1<=m0/\m0<=4):
 Calls prog 14 #[Pt p 0,I m0] w λe w'=>∃(q:eK) (C:af) (G:af),e=.returned (.agg (bG q).toArray)/\(aF aL 115 18 q.ae.a q.ae.n q.ae.k q.ae.l C)/\(∀z∈q.ae.l,aA.Ok [G] z)/\(∀(a:cf) (n k:Nat) (l:List aA) (C':af),aF aL 115 18 a n k l C'->(∀z∈l,aA.Ok [G] z)->eK.Ok [C'++G] ⟨q.aa,⟨a,n,k,l⟩,q.aK,q.ba⟩)/\(Xu 0 q)/\(Good (q.aa.l.map ah.v) (q.ae.l.map aA.v) q.ba/\∃l0,kO ((q.aa.l.map ah.v).map cd) (q.ae.l.map aA.v)=some l0)/\(1<=q.ae.l.length/\(1<=q.aK.l.length/\q.aK.l.length<=2)/\xg ((q.aa.l.map ah.v).length+(q.ae.l.map aA.v).length) q.aK.l=true)/\∃i':Int,(0<=i'/\i'<=n)/\X W w' (aW p #[.slice a n k,I i'] 91::C::G::H::F):=by
 let Q1:=hR.le;refine aq 151 func14 Z<|Q 2<|aI hS zeroValue41 λi0 _ r3=>JO 5<|let s3:=(r3.pick 1 Z);cZ (bB (hR.fl 1) Y s3.aQ 4 Y) ?_;rintro _ _⟨j0,rfl,_,_,_,u3⟩;refine bf<|aI u3.ak zeroValue41 λf0 _ w3=>bP w3 0 Z [nS,nS,nS,I j0] λ_ x3=>JO 5<|let y3:=(x3.pick 1 Z);cZ (NF (hR.fl 2) Y y3.aQ) ?_;rintro _ _⟨a0,k0,rfl,t1,r0,_,_,z3⟩;refine aI (X.cq z3) zeroValue103 λ_ _ b4=>bP b4 0 Z (au a0) λ_ u1=>GO u1 5 [400]<|ec u1 (au a0).toArray 103 λg0 _ d4=>bf<|eX d4 4 Z 0 (.slice (At g0 0) 1 1) λ_ v1=>JO 2<|eQ v1 6 [0,1,4,5] (γ:=cf×Nat×Nat×(List ah)×af×Int×Int) (λ⟨ai,ni,ki,Iq,GI,pr,X0⟩ R=>⟨[],aW p #[.slice a n k,I X0] 91::aW f0 #[.slice ai ni ki,nS,nS,I pr] 41::aW i0 #[nS,nS,nS,I 0] 41::GI::R,0,(0<=X0/\X0<=n)/\bl au 4 [GI] ai ni ki Iq/\(∀z∈Iq,ah.Ok [GI] z)/\((1<=Iq.length/\Iq.length<=2)/\∀z∈Iq,Hm z)/\(0<=pr/\pr<4)⟩) ?_ ?_
 ·refine Q 3<|let e4:=(v1.pick 2 Z);cZ (bB (hR.fl 5) Y e4.aQ 2 Y) ?_;rintro _ _⟨f4,rfl,_,z0,_,g4⟩;let w1:=g4.ak;refine JO 3<|cE f4 0 (λh4=>?_) (λh4=>?_);rotate_left
  ·refine lq 1 Z ?_;let i4:=((w1.az [5,5,2]).aj 4 Z);let j4:X W _ (aW p #[.slice a n k,I z0] 91::aW f0 #[.slice (At g0 0) 1 1,nS,nS,I j0] 41::aW i0 #[nS,nS,nS,I 0] 41::((aW g0 (au a0).toArray 103)++k0)::(H::F)):=X.perm (show X W _ (aW p #[.slice a n k,I z0] 91::aW f0 #[.slice (At g0 0) 1 1,nS,nS,I j0] 41::aW i0 #[nS,nS,nS,I 0] 41::aW g0 (au a0).toArray 103::k0::H::F) from i4) xi
   exact⟨((At g0 0),1,1,[a0],((aW g0 (au a0).toArray 103)++k0),j0,z0),bR,j4,Y,((bl.dO (O:=[(aW g0 (au a0).toArray 103)]) (enc:=au) (sz:=4) (xs:=[a0]) fR 1 0 Z Z Z Y).ag mS),(by
    intro z hz;simp only[acw,acn,acW,adO] at hz;subst hz;exact t1.ag mS),⟨by simp,(by
    intro z hz;simp only[acw,acn,acW,adO] at hz;subst hz;exact⟨r0.2.2.1,r0.2.2.2⟩)⟩,Y⟩
  refine bJ w1 [7,8,9,11] (fb 1 4 0 1<|fb 4 2 0 1<|fb 6 2 1 1<|fn) [0,2,3,5,1,4,6,7,8,9,10,11] λ_ k4=>wV 4<|wL 0<|wL 1<|wL 2<|wO Z<|cZ (FU (hR.fl 5) Y k4.aQ a0.w a0.h Y) ?_;rintro _ _⟨a1,b1,rfl,l4,x1,c1,_,m4⟩;let y1:=m4.cq;refine nZ y1 [5]<|wO Z<|ec y1 (au a1).toArray 103 λ_ _ z1=>nZ z1 [6]<|wO Z<|dM (nb:=48) z1 (aF.dO (enc:=au) (sz:=4) (b:=g0) (c:=#[I a0.w,I a0.h,I a0.aG,.slice a0.bM.a a0.bM.n a0.bM.k]) (E:=103) (xs:=[a0]) fR 1 Z Z Z Y) 3 (bl.dO (enc:=au) (sz:=4) (xs:=[a1]) fR 1 0 Z Z Z Y) underlying38 (i:=Tryz.t103) kr fR λs0 t0 u0 _ o4 p4=>nA<|wV 1<|wO Z<|eX p4 6 Z 0 (.slice s0 (1+1) t0) λ_ q4=>nA<|wN<|mI 0 Z ?_;let r4:=((q4.az [5,4,7,7,5]).ap [5,6]);let s4:X W _ (aW p #[.slice a n k,I c1] 91::aW f0 #[.slice s0 (1+1) t0,nS,nS,I j0] 41::aW i0 #[nS,nS,nS,I 0] 41::(u0++k0++b1)::(H::F)):=X.perm (show X W _ (aW p #[.slice a n k,I c1] 91::aW f0 #[.slice s0 (1+1) t0,nS,nS,I j0] 41::aW i0 #[nS,nS,nS,I 0] 41::u0::k0::b1::H::F) from r4) xi
  exact⟨(s0,(1+1),t0,([a0]++[a1]),(u0++k0++b1),j0,c1),bR,s4,Y,((o4.dt (O:=[u0]) 0 Z).ag mS),(by
   intro z hz;simp only[acw,acn,acW,adO] at hz;rcases hz with rfl|rfl
   ·exact t1.ag mS
   ·exact l4.ag mS),⟨by simp,(by
   intro z hz;simp only[acw,acn,acW,adO] at hz;rcases hz with rfl|rfl
   ·exact⟨r0.2.2.1,r0.2.2.2⟩
   ·exact⟨x1.2.2.1,x1.2.2.2⟩)⟩,Y⟩
 rintro⟨ai,ni,ki,Iq,GI,pr,X0⟩ V _⟨t4,J1,J0,T0,G0,O1⟩;refine Q 5<|cZ (bB (hR.fl 3) Y t4.aQ m0 Y) ?_;rintro _ _⟨a2,rfl,_,u4,_,v4⟩;refine aU 1 a2<|JO 4<|bF [0,4,5] (γ:=Nat×Int×(List aA)×cf×Nat×Nat×af×af×(List aY)×Int) (λ⟨u,j,ss,sa,sn,sk,Gs,O,l0,Y0⟩ R=>⟨[(7,I j)],O::Gs::aW p #[.slice a n k,I Y0] 91::aW f0 #[.slice ai ni ki,.slice sa sn sk,nS,I pr] 41::R,4-u,u<=4/\(aF aL 115 18 sa sn sk ss O)/\(∀z∈ss,aA.Ok [Gs] z)/\(∀z∈ss,lQ 0 z)/\(Good (Iq.map ah.v) (ss.map aA.v) pr)/\(kO ((Iq.map ah.v).map cd) (ss.map aA.v)=some l0)/\(ss.length=u)/\(1<=(u:Int)+j/\(u:Int)+j<=4)/\(0<=Y0/\Y0<=n)⟩) (0,(1+a2),[],none,0,0,[],[],((Iq.map ah.v).map cd),u4) ⟨(X.bU (X.bU v4.ak)),Y,aF.nil (enc:=aL) (E:=115) (sz:=18) fR,pG,pG,⟨zn G0.2,by rw[acf];exact G0.1,by simp,O1,by intro m s h;simp at h⟩,by rfl,by rfl,Y,Y⟩ ?_;rintro⟨u,j,ss,sa,sn,sk,Gs,O,l0,Y0⟩ V _⟨v0,hu,E0,O0,Z0,A0,D0,R1,hj,K1⟩;refine Q 7<|cD (j>0) (λz4=>?_) (λz4=>?_);rotate_left
 ·refine Q 6<|let A1:=J0.len;let B1:=E0.len;GC v0 7 [3,3]<|aU (ni:Int) (sn:Int)<|JO 6<|dP ((ni:Int)+sn) 1<|ec v0 #[I (((ni:Int)+sn)-1)] 3 λd0 _ a5=>bf<|eX a5 4 Z 2 (.slice (At d0 0) 1 1) λ_ b5=>JO 6<|let c5:=(b5.pick 3 Z);cZ (bB (hR.fl 6) Y c5.aQ 3 Y) ?_;rintro _ _⟨d5,rfl,_,b2,_,e5⟩;let d1:=e5.ak;refine JO 3<|cE d5 0 (λf5=>?_) (λf5=>?_);rotate_left
  ·refine GC d1 5 [404]<|bP d1 5 Z [.slice ai ni ki,.slice sa sn sk,.slice (At d0 0) 1 1,I pr] λ_ c2=>my 3 Z<|hD (vs:=[.agg #[.slice ai ni ki,.slice sa sn sk,.slice (At d0 0) 1 1,I pr]]) Z (.cons (.cell _ _ _ _ kr (nW c2 5 0 [.slice ai ni ki,.slice sa sn sk,.slice (At d0 0) 1 1,I pr] (isAgg41 _) (sizeOf41 _) Z Z Z)) .nil) ?_;let g5:=((c2.az [6,4,4,3]).ap [5,5]);let h5:X W _ (aW p #[.slice a n k,I b2] 91::O::(Gs++GI++(aW d0 #[I (((ni:Int)+sn)-1)] 3))::(H::F)):=X.perm (show X W _ (aW p #[.slice a n k,I b2] 91::O::Gs::GI::aW d0 #[I (((ni:Int)+sn)-1)] 3::H::F) from g5) xi
   exact⟨(⟨⟨ai,ni,ki,Iq⟩,⟨sa,sn,sk,ss⟩,⟨(At d0 0),1,1,[(((ni:Int)+sn)-1)]⟩,pr⟩:eK),O,(Gs++GI++(aW d0 #[I (((ni:Int)+sn)-1)] 3)),rfl,E0,(λz hz=>(O0 z hz).ag mS),(λ_ _ _ _ C9 h1 h2=>⟨J0.ag mS,(λz hz=>(T0 z hz).ag mS),(h1.dt (O:=[C9]) 0 Z).ag mS,(λz hz=>(h2 z hz).ag mS),(bl.dO (O:=[(aW d0 #[I (((ni:Int)+sn)-1)] 3)]) (enc:=ca) (sz:=1) (xs:=[(((ni:Int)+sn)-1)]) fR 1 0 Z Z Z Y).ag mS⟩),⟨⟨G0.1.2,λz hz=>ya (G0.2 z hz)⟩,⟨by dsimp only;omega,Z0⟩,⟨by simp,(by intro z hz;simp only[acw,acn,acW,adO] at hz;subst hz;unfold dT;omega)⟩,by unfold dT;dsimp only;omega⟩,⟨A0,l0,D0⟩,⟨by dsimp only;omega,⟨by simp,by simp⟩,by
    unfold xg;rw[acH];intro z hz;simp only[acw,acn,acW,adO] at hz;exact acg (by simp only[acf];subst hz;omega)⟩,_,Y,h5⟩
  refine bJ d1 [4,5,6,8] (fb 1 4 2 1<|fn) [0,2,3,1,4,5,6,7,8] λ_ i5=>wV 3<|wL 0<|wO Z<|cZ (bB (hR.fl 6) Y i5.aQ ((ni:Int)+sn) Y) ?_;rintro _ _⟨f1,rfl,_,d2,_,j5⟩;let e2:=j5.ak;refine nZ e2 [4]<|wO Z<|ec e2 #[I f1] 3 λ_ _ f2=>nZ f2 [5]<|wO Z<|dM (nb:=8) f2 (aF.dO (enc:=ca) (sz:=1) (b:=d0) (c:=#[I (((ni:Int)+sn)-1)]) (E:=3) (xs:=[(((ni:Int)+sn)-1)]) fR 1 Z Z Z Y) 2 (bl.dO (enc:=ca) (sz:=1) (xs:=[f1]) fR 1 0 Z Z Z Y) underlying22 (i:=Tryz.t3) kr fR λn0 o0 w0 _ l5 m5=>nA<|wV 1<|wO Z<|eX m5 5 Z 2 (.slice n0 (1+1) o0) λ_ g2=>nA<|wN<|GX g2 4 [405]<|bP g2 6 Z [.slice ai ni ki,.slice sa sn sk,.slice n0 (1+1) o0,I pr] λ_ i2=>my 3 Z<|hD (vs:=[.agg #[.slice ai ni ki,.slice sa sn sk,.slice n0 (1+1) o0,I pr]]) Z (.cons (.cell _ _ _ _ kr (nW i2 6 0 [.slice ai ni ki,.slice sa sn sk,.slice n0 (1+1) o0,I pr] (isAgg41 _) (sizeOf41 _) Z Z Z)) .nil) ?_;let n5:=((i2.az [7,5,5,4]).ap [4,5,5]);let o5:X W _ (aW p #[.slice a n k,I d2] 91::O::(Gs++GI++w0)::(H::F)):=X.perm (show X W _ (aW p #[.slice a n k,I d2] 91::O::Gs::GI::w0::H::F) from n5) xi
  exact⟨(⟨⟨ai,ni,ki,Iq⟩,⟨sa,sn,sk,ss⟩,⟨n0,(1+1),o0,([(((ni:Int)+sn)-1)]++[f1])⟩,pr⟩:eK),O,(Gs++GI++w0),rfl,E0,(λz hz=>(O0 z hz).ag mS),(λ_ _ _ _ C9 h1 h2=>⟨J0.ag mS,(λz hz=>(T0 z hz).ag mS),(h1.dt (O:=[C9]) 0 Z).ag mS,(λz hz=>(h2 z hz).ag mS),(l5.dt (O:=[w0]) 0 Z).ag mS⟩),⟨⟨G0.1.2,λz hz=>ya (G0.2 z hz)⟩,⟨by dsimp only;omega,Z0⟩,⟨by simp,(by intro z hz;simp only[acw,acn,acW,adO] at hz;rcases hz with rfl|rfl<;>(unfold dT;omega))⟩,by unfold dT;dsimp only;omega⟩,⟨A0,l0,D0⟩,⟨by dsimp only;omega,⟨by simp,by simp⟩,by
   unfold xg;rw[acH];intro z hz;simp only[acw,acn,acW,adO] at hz;refine acg ?_;simp only[acf];rcases hz with rfl|rfl<;>omega⟩,_,Y,o5⟩
 refine Q 5<|let A1:=J0.len;let B1:=E0.len;let L1:=E0.le;GC v0 3 [403]<|let p5:=(v0.pick 2 Z);cZ (KG (hR.fl 5) Y p5.aQ (⟨⟨ai,ni,ki,Iq⟩,⟨sa,sn,sk,ss⟩,⟨none,0,0,[]⟩,pr⟩:eK) ⟨(J0.fl 4),(λz hz=>(T0 z hz).ag (mF 4)),(bl.ao (E0.dt 0 (by rfl))),(λz hz=>(O0 z hz).ag (mF 1)),rN⟩ l0 A0 D0) ?_;rintro _ _⟨_,e0,_,_,rfl,p0,_,_,q5⟩;let r5:=q5.cq;let C0:=p0.len;let P0:=p0.le;refine VG 2 Z<|let U0:=CI (ss.map aA.v) _ l0 (Gq (zn G0.2)) D0;let B0:((Iq.map ah.v).length:Int)+(ss.map aA.v).length=(e0:Int):=(by let h:=U0.2;let h2:=C0;simp only[acf] at h⊢;omega);let G1:(Iq.length:Int)+ss.length=(e0:Int):=(by let h:=B0;simp only[acf] at h;exact h);JX 6<|cZ (bB (hR.fl 6) Y r5.aQ (e0:Int) Y) ?_;rintro _ _⟨s5,rfl,_,_,_,t5⟩;let j2:=t5.ak;refine JO 3<|eQ j2 1 [0,4,5,7,8] (γ:=Int×Int) (λ⟨av,V0⟩ R=>⟨[(9,I av)],aW p #[.slice a n k,I V0] 91::R,0,(0<=V0/\V0<=n)/\(0<=av/\av<e0)⟩) ?_ ?_
 ·exact Q 3<|cZ (bB (hR.fl 6) Y j2.aQ 2 Y)<|(by rintro _ _⟨u5,rfl,_,k2,_,v5⟩;let m2:=v5.ak;exact JO 3<|CE u5 0 (λw5=>lq 1 Z<|⟨(s5,k2),bR,m2,Y,Y⟩) λw5=>Q 3<|dP (e0:Int) 1<|bX 2 Z<|⟨(((e0:Int)-1),k2),bR,m2,Y,Y⟩)
 rintro⟨av,V0⟩ V _⟨x5,I1,S1⟩;refine Q 5<|cZ (bB (hR.fl 6) Y x5.aQ (e0:Int) Y) ?_;rintro _ _⟨n2,rfl,_,g1,_,y5⟩;let i1:=y5.ak;refine JO 3<|eQ i1 1 [0,4,5,7,8,9] (γ:=Int×Int) (λ⟨bv,W0⟩ R=>⟨[(10,I bv)],aW p #[.slice a n k,I W0] 91::R,0,(0<=W0/\W0<=n)/\(bv=-1\/(0<=bv/\bv<e0))⟩) ?_ ?_
 ·exact Q 1<|(by let⟨j1,ha,ia,z5,k1,l1⟩:=bl.elem p0 av;let L0:=U0.1 j1 (ab8 z5);let⟨m1,ja,ka,a6,n1,o1⟩:=bl.elem p0 n2;let M0:=U0.1 m1 (ab8 a6);exact bC ((j1.w:Int)=m1.w) (λo2=>bJ i1 [] (fq 4 0 (k1.up 1 Z)<|fq 9 0 (n1.up 1 Z)<|fn) [0,1,2,3,5,6,7,8,4,9,10,11,12,13,14,15,17,18,19,20,16,21,22,23] λ_ b6=>wV 2<|wI l1<|wV 3<|wI o1<|wV 1<|wL 0<|wL 1<|wV 2<|jy 74 _ true (adM.2 o2)<|wV 12<|wN<|mI 5 Z<|⟨(-1,g1),bR,b6,Y,Y⟩) λo2=>bJ i1 [] (fq 4 0 (k1.up 1 Z)<|fq 9 0 (n1.up 1 Z)<|fq 16 1 (k1.up 1 Z)<|fq 21 1 (n1.up 1 Z)<|fn) [0,1,2,3,5,6,7,8,4,9,10,11,12,13,14,15,17,18,19,20,16,21,22,23] λ_ r2=>wV 2<|wI l1<|wV 3<|wI o1<|wV 1<|wL 0<|wL 1<|wV 2<|jy 74 _ false (adr.2 o2)<|wV 2<|wI l1<|wV 3<|wI o1<|wV 1<|wL 2<|wL 3<|wV 2<|wN<|JX 1<|cN j1.h m1.h (λc6=>lq 1 Z<|⟨(n2,g1),bR,r2,Y,Y⟩) λc6=>lq 3 Z<|⟨(-1,g1),bR,r2,Y,Y⟩)
 rintro⟨bv,W0⟩ V _⟨s2,Qh,T1⟩;refine Q 6<|oJ p0 av λq0 _ _ d6 e6=>let N0:=U0.1 q0 (ab8 d6);lv s2 (e6.up 1 Z) 0 [I q0.w,I q0.h,I q0.aG]<|bf<|cZ (NT (hR.fl 6) Y s2.aQ av q0 bv ‹_› (by unfold dT;omega)) ?_;rintro _ _⟨b0,f6,rfl,t2,g6,u2,x0,_,h6⟩;refine aI (X.cq h6) zeroValue115 λ_ _ j6=>bP j6 0 Z (aL b0) λ_ v2=>GO v2 5 [406]<|aI v2 zeroValue41 λw2 _ k6=>bP k6 0 Z [.slice ai ni ki,.slice sa sn sk,nS,I pr] λ_ x2=>JO 2<|eQ x2 1 [0,4,5,7,9,11,12] (γ:=SO) (λ⟨a3,n3,k3,c3⟩ R=>⟨[],c3::aW w2 #[.slice ai ni ki,.slice a3 n3 k3,nS,I pr] 41::R,0,aF aL 115 18 a3 n3 k3 (ss++[b0]) c3⟩) ?_ ?_
 ·refine kA x2 [0,3,5,6,8] (fb 2 7 1 1<|fb 4 1 0 18<|fn) (pS [1,2,4]<| .fk 0 5 (.fk 3 5 (.ef 5<| .ef 6<|pS [7]<| .ef 8<| .fin) (.ef 3<| .ef 6<|pS [7]<| .ef 8<| .fin)) (.ef 0<| .ef 3<| .ef 6<|pS [7]<| .ef 8<| .fin)) λ_ y2=>qV 1<|qL 0<|qG 1 18<|qF ?_ ?_;rotate_left
  ·exact qO Z<|ec y2 (aL b0).toArray 115 λ_ _ z2=>nZ z2 [8]<|qO Z<|ec z2 #[] 115 λl6 _ b3=>nZ b3 [9]<|qO Z<|dM (nb:=240) b3 (aF.dO (enc:=aL) (sz:=18) (b:=l6) (c:=#[]) (E:=115) (xs:=[]) fR 0 Z Z Z Y) 0 (E0.dt 7 Z) underlying39 (i:=Tryz.t115) kr fR λ_ _ _ _ n6 o6=>nA<|qO Z<|dM (nb:=240) o6 n6 0 (bl.dO (enc:=aL) (sz:=18) (xs:=[b0]) fR 1 1 Z Z Z Y) underlying39 (i:=Tryz.t115) kr fR λd3 e3 p6 _ q6 r6=>nA<|qV 1<|qO Z<|eX r6 2 Z 1 (.slice d3 ((0+sn)+1) e3) λ_ s6=>nA<|qN<|mI 0 Z<|⟨(d3,((0+sn)+1),e3,p6),bR,(s6.aj 1 Z),(by let h:=q6;first|exact h|simpa using h)⟩
  refine qO Z<|ec y2 #[] 115 λf3 _ q1=>nZ q1 [8,2]<|qF ?_ ?_;rotate_left
  ·exact qO Z<|ec q1 (aL b0).toArray 115 λ_ _ g3=>nZ g3 [9]<|qO Z<|dM (nb:=240) g3 (aF.dO (enc:=aL) (sz:=18) (b:=f3) (c:=#[]) (E:=115) (xs:=[]) fR 0 Z Z Z Y) 1 (E0.dt 7 Z) underlying39 (i:=Tryz.t115) kr fR λ_ _ _ _ v6 w6=>nA<|qO Z<|dM (nb:=240) w6 v6 1 (bl.dO (enc:=aL) (sz:=18) (xs:=[b0]) fR 1 0 Z Z Z Y) underlying39 (i:=Tryz.t115) kr fR λh3 i3 x6 _ y6 z6=>nA<|qV 1<|qO Z<|eX z6 2 Z 1 (.slice h3 ((0+sn)+1) i3) λ_ a7=>nA<|qN<|mI 0 Z<|⟨(h3,((0+sn)+1),i3,x6),bR,(a7.aj 0 Z),(by let h:=y6;first|exact h|simpa using h)⟩
  exact qO Z<|dM (nb:=240) q1 (aF.dO (enc:=aL) (sz:=18) (b:=f3) (c:=#[]) (E:=115) (xs:=[]) fR 0 Z Z Z Y) 0 (E0.dt 6 Z) underlying39 (i:=Tryz.t115) kr fR λ_ _ _ _ d7 j3=>nZ j3 [2]<|qO Z<|ec j3 (aL b0).toArray 115 λ_ _ e7=>nA<|qO Z<|dM (nb:=240) e7 d7 1 (bl.dO (enc:=aL) (sz:=18) (xs:=[b0]) fR 1 0 Z Z Z Y) underlying39 (i:=Tryz.t115) kr fR λl3 m3 f7 _ g7 h7=>nA<|qV 1<|qO Z<|eX h7 2 Z 1 (.slice l3 ((0+sn)+1) m3) λ_ i7=>nA<|qN<|mI 0 Z<|⟨(l3,((0+sn)+1),m3,f7),bR,(i7.aj 0 Z),(by let h:=g7;first|exact h|simpa using h)⟩
 rintro⟨a3,n3,k3,c3⟩ V _⟨k7,I0⟩;refine Q 1 ?_;let M1:=I0.len;simp only[acm,ac4] at M1;let P1:=I0.le;refine Q 1<|ec k7 #[I 0] 3 λy0 _ l7=>bf<|eX l7 2 Z 2 (.slice (At y0 0) 1 1) λ_ r1=>JO 2<|eQ r1 11 [0,4,5,7,12] (γ:=aA×(List aY)×af×af) (λ⟨q2,l2,c4,H0⟩ R=>⟨[],c4::H0::aW p #[.slice a n k,I x0] 91::aW f0 #[.slice ai ni ki,.slice sa sn sk,nS,I pr] 41::aW i0 #[nS,nS,nS,I 0] 41::aW w2 #[.slice ai ni ki,.slice a3 n3 k3,.slice (At y0 0) 1 1,I pr] 41::Gs::R,0,aF aL 115 18 a3 n3 k3 (ss++[q2]) c4/\aA.Ok [H0] q2/\lQ 0 q2/\Good (Iq.map ah.v) ((ss++[q2]).map aA.v) pr/\kO ((Iq.map ah.v).map cd) ((ss++[q2]).map aA.v)=some l2⟩) ?_ ?_;rotate_left
 ·rintro⟨q2,l2,c4,H0⟩ V _⟨o3,F1,Q0,C1,K0,F0⟩;let N1:=F1.len;simp only[acm,ac4] at N1;refine GC o3 4 [5]<|eX o3 3 Z 1 (.slice a3 n3 k3) λ_ m7=>JO 5<|dP j 1<|bX 2 Z ?_;let n7:=((m7.az [6,2,2]).aj 6 Z);let o7:X W _ (c4::(H0++Gs)::(aW p #[.slice a n k,I x0] 91::aW f0 #[.slice ai ni ki,.slice a3 n3 k3,nS,I pr] 41::aW i0 #[nS,nS,nS,I 0] 41::GI::H::F)):=X.perm (show X W _ (c4::H0::Gs::aW p #[.slice a n k,I x0] 91::aW f0 #[.slice ai ni ki,.slice a3 n3 k3,nS,I pr] 41::aW i0 #[nS,nS,nS,I 0] 41::GI::H::F) from n7) xi
  exact⟨(u+1,(j-1),(ss++[q2]),a3,n3,k3,(H0++Gs),c4,l2,x0),od,bR,o7,Y,F1,(by
   intro z hz;rcases acn.1 hz with h|h
   ·exact(O0 z h).ag mS
   ·simp only[ack] at h;subst h;exact Q0.ag mS),jY Z0 C1,K0,F0,by simp;omega,Y,Y⟩
 refine GC r1 3 [402]<|cS (HR (⟨⟨ai,ni,ki,Iq⟩,⟨a3,n3,k3,(ss++[b0])⟩,⟨(At y0 0),1,1,[0]⟩,pr⟩:eK) ⟨(J0.fl 11),(λz hz=>(T0 z hz).ag (mF 11)),(bl.ao (I0.dt 1 (by rfl))),(λz hz=>by
  rcases acn.1 hz with h|h
  ·exact(O0 z h).ag (mF 8)
  ·simp only[ack] at h;rw[h];exact t2.ag (mF 5)),(bl.ao (bl.dO (enc:=ca) (sz:=1) (xs:=[0]) (λ_=>(by rfl)) 1 0 Z Z Z Y))⟩ od r1.ao) ?_
 intro _ q3;refine JO 13<|cN ((db (⟨⟨ai,ni,ki,Iq⟩,⟨a3,n3,k3,(ss++[b0])⟩,⟨(At y0 0),1,1,[0]⟩,pr⟩:eK).v).2.2) 0 (λp7=>?_) (λp7=>?_)
 ·refine lq 1 Z ?_
  let R0:∀x∈df b0.v,0<=x/\x<((Iq.map ah.v).length:Int)+(ss.map aA.v).length:=by
   intro x hx;let H1:=u2;let e1:((Iq.map ah.v).length:Int)+(ss.map aA.v).length=(e0:Nat):=B0;rw[e1];unfold df at hx;split at hx
   ·rename_i ht;let E1:=ht.2;simp only[aA.v] at E1;simp only[acw,acW,adO,aA.v] at hx;rcases hx with rfl|rfl<;>omega
   ·exact VF
  let K0:Good (Iq.map ah.v) ((ss++[b0]).map aA.v) pr:=by rw[acB];exact A0.snoc mo R0
  let F0:∃l2,kO ((Iq.map ah.v).map cd) ((ss++[b0]).map aA.v)=some l2:=by
   cases hrr:kO ((Iq.map ah.v).map cd) ((ss++[b0]).map aA.v) with
   |some l=>exact⟨l,rfl⟩
   |none=>exact absurd ‹_› ((It K0 (by simp)).2 hrr)
  let⟨l2,F0⟩:=F0;exact⟨(b0,l2,c3,f6),bR,((q3.az [10,10,6,7,5]).ap [5,6,6,6]),I0,t2,g6,K0,F0⟩
 refine Q 4<|ec q3 #[I 0,I 0] 119 λc0 _ r7=>bf<|bP r7 4 Z (aL {fX with aB:=6,a:=av,b:=-1,ops:=⟨(At c0 0),1,1,[]⟩,aG:=255}) λ_ s1=>GO s1 8 [3,3]<|dP (n3:Int) 1<|GO s1 1 [1804]<|i9 I0 ((n3:Int)-1) ((n3:Int)-1).toNat λs7 _ _ t7 _ u7=>fj s1 I0 u7 2 ((n3:Int)-1).toNat 0 s7 (⟨6,av,-1,false,0,0,0,0,⟨none,0,0,[]⟩,⟨none,0,0,[]⟩,⟨none,0,0,[]⟩,0,0,⟨none,0,0,[]⟩,⟨none,0,0,[]⟩,0,⟨(At c0 0),1,1,[(⟨0,0⟩:fJ)]⟩,255⟩:aA) t7 (.agg (aL {fX with aB:=6,a:=av,b:=-1,ops:=⟨(At c0 0),1,1,[]⟩,aG:=255}).toArray) (aL {fX with aB:=6,a:=av,b:=-1,ops:=⟨(At c0 0),1,1,[]⟩,aG:=255}) sizeOf115 λ_ v7 w7 x7=>bX 1 Z ?_
 let R0:∀x∈df b0.v,0<=x/\x<((Iq.map ah.v).length:Int)+(ss.map aA.v).length:=by
  intro x hx;let H1:=u2;let e1:((Iq.map ah.v).length:Int)+(ss.map aA.v).length=(e0:Nat):=B0;rw[e1];unfold df at hx;split at hx
  ·rename_i ht;let E1:=ht.2;simp only[aA.v] at E1;simp only[acw,acW,adO,aA.v] at hx;rcases hx with rfl|rfl<;>omega
  ·exact VF
 let K0:Good (Iq.map ah.v) ((ss++[(⟨6,av,-1,false,0,0,0,0,⟨none,0,0,[]⟩,⟨none,0,0,[]⟩,⟨none,0,0,[]⟩,0,0,⟨none,0,0,[]⟩,⟨none,0,0,[]⟩,0,⟨(At c0 0),1,1,[(⟨0,0⟩:fJ)]⟩,255⟩:aA)]).map aA.v) pr:=by rw[acB];exact A0.snoc mo (by
  intro x hx;let h0:df (aA.v (⟨6,av,-1,false,0,0,0,0,⟨none,0,0,[]⟩,⟨none,0,0,[]⟩,⟨none,0,0,[]⟩,0,0,⟨none,0,0,[]⟩,⟨none,0,0,[]⟩,0,⟨(At c0 0),1,1,[(⟨0,0⟩:fJ)]⟩,255⟩:aA))=[av]:=by unfold df;rw[ab9 (by unfold fY;simp[aA.v])];rfl
  rw[h0] at hx;simp only[ack] at hx;subst hx;rw[B0];omega)
 let F0:∃l2,kO ((Iq.map ah.v).map cd) ((ss++[(⟨6,av,-1,false,0,0,0,0,⟨none,0,0,[]⟩,⟨none,0,0,[]⟩,⟨none,0,0,[]⟩,0,0,⟨none,0,0,[]⟩,⟨none,0,0,[]⟩,0,⟨(At c0 0),1,1,[(⟨0,0⟩:fJ)]⟩,255⟩:aA)]).map aA.v)=some l2:=by rw[acB];exact LO (a:=av) A0 D0 (by rw[B0];omega)
 let D1:(ss++[b0]).set (((n3:Int)-1).toNat) (⟨6,av,-1,false,0,0,0,0,⟨none,0,0,[]⟩,⟨none,0,0,[]⟩,⟨none,0,0,[]⟩,0,0,⟨none,0,0,[]⟩,⟨none,0,0,[]⟩,0,⟨(At c0 0),1,1,[(⟨0,0⟩:fJ)]⟩,255⟩:aA)=ss++[(⟨6,av,-1,false,0,0,0,0,⟨none,0,0,[]⟩,⟨none,0,0,[]⟩,⟨none,0,0,[]⟩,0,0,⟨none,0,0,[]⟩,⟨none,0,0,[]⟩,0,⟨(At c0 0),1,1,[(⟨0,0⟩:fJ)]⟩,255⟩:aA)]:=by rw[adC _ _ Y,show(((n3:Int)-1).toNat)-ss.length=0 from by omega];rfl
 let⟨l2,F0⟩:=F0;exact⟨((⟨6,av,-1,false,0,0,0,0,⟨none,0,0,[]⟩,⟨none,0,0,[]⟩,⟨none,0,0,[]⟩,0,0,⟨none,0,0,[]⟩,⟨none,0,0,[]⟩,0,⟨(At c0 0),1,1,[(⟨0,0⟩:fJ)]⟩,255⟩:aA),l2,v7,(aW c0 #[I 0,I 0] 119)),bR,((x7.az [11,11,7,3,5]).ap [5,6,6,6,6]),(by let h:=w7;rw[D1] at h;exact h),⟨rN,rN,rN,rN,(λz hz=>gO),rN,(λz hz=>gO),(bl.dO (O:=[(aW c0 #[I 0,I 0] 119)]) (enc:=gA) (sz:=2) (xs:=[(⟨0,0⟩:fJ)]) fR 1 0 Z Z Z Y)⟩,⟨⟨nb,nb,nb,nb,nb,nb,nb,nb,nb,nb,nb⟩,⟨by simp,λz hz=>gO⟩,⟨by simp,λz hz=>gO⟩,⟨by simp,λz hz=>gO⟩,⟨by simp,λz hz=>gO⟩,⟨by simp,λz hz=>gO⟩,⟨by simp,(by intro z hz;simp only[ack] at hz;subst hz;unfold QX dT;exact rD)⟩⟩,K0,F0⟩
def WB{p:Nat}{a:cf}{n k:Nat}{i:Int}{xs:aR}(j:bl ca 1 [H] a n k xs)(hi:0<=i/\i<=n)(h:X W w (aW p #[.slice a n k,I i] 91::H::F))(c:Int)(f:1<=c/\c<=4):
 Calls prog 14 #[Pt p 0,I c] w λe g=>∃(q:eK) (G:af),e=.returned (.agg (bG q).toArray)/\(eK.Ok [G] q)/\(Xu 0 q)/\(Good (q.aa.l.map ah.v) (q.ae.l.map aA.v) q.ba/\∃b,kO ((q.aa.l.map ah.v).map cd) (q.ae.l.map aA.v)=some b)/\(1<=q.ae.l.length/\(1<=q.aK.l.length/\q.aK.l.length<=2)/\xg ((q.aa.l.map ah.v).length+(q.ae.l.map aA.v).length) q.aK.l=true)/\∃d:Int,(0<=d/\d<=n)/\X W g (aW p #[.slice a n k,I d] 91::G::H::F):=(Sg j hi h c f).mono (by rintro e g⟨q,C,G,he,h1,l,c,h,g,f,d,b,j⟩;exact⟨q,C++G,he,c _ _ _ _ _ h1 l,h,g,f,d,b,X.perm j (by simp)⟩)
end Go.Proofs.YtmfebppagcejcaaGreat
namespace Go.E
open Go.Shelf Go.RowKit Go.Sort Go.Proofs
section
variable{P:Program}{V:Ren}{W w:World}{O:cj}{E:TypeId}{a:cf}{n k:Nat}{xs:aR}{c:af}
def td{off:Nat}{zs:aR}{cur:nO}(hf:off+zs.length<=cur.size):((putCells (Value.int .i64) off zs.toArray cur).toList.drop off).take zs.length=zs.flatMap ca:=by
 let b:∀l:aR,l.flatMap ca=l.map (Value.int .i64):=by
  intro l
  induction l with
  |nil=>rfl
  |cons x l a=>rw[ac8,a];rfl
 rw[b];apply acQ
 grind[putCells]
def tg{off:Nat}{zs:aR}{cur:nO}:(putCells (Value.int .i64) off zs.toArray cur).size=cur.size:=by simp[putCells]
def yu{b off:Nat}{cur:nO}{q:Nat}{zs:aR}{os:Array Obj}(c:X W w (aW b cur E::O)):
 X W (grow (putRow (Value.int .i64) (Go.Sort.ahead w q) b off zs.toArray) os) (aW b (putCells (Value.int .i64) off zs.toArray cur) E::O):=by
 let f:w.heap[b]?=some (.cells cur E (0,0)):=c.heap (by simp);let g:b<w.heap.size:=(adF.1 f).1;refine⟨c.os,c.tape,c.output,c.nd,?_⟩;intro p hp;let d:∀j,j<w.heap.size->(grow (putRow (Value.int .i64) (Go.Sort.ahead w q) b off zs.toArray) os).heap[j]?=(w.heap.modify b (onCells (putCells (Value.int .i64) off zs.toArray)))[j]?:=(by intro j a;rw[heap_grow_old _ _ dV];rfl);simp only[acU,acP,acN,acw] at hp;rcases hp with rfl|hp
 ·rw[d b g,Array.getElem?_modify,aca Z,f];rfl
 ·exact(by let h0:=c.all p (by simp[hp]);let a:p.1<w.heap.size:=(adF.1 h0).1;let a:b≠p.1:=(by intro e;let:=c.nd;grind);grind)
def holds_of{b off:Nat}{cur:nO}{zs:aR}(c:X W w (aW b cur E::O))(h:(cur.toList.drop off).take zs.length=zs.flatMap ca):Holds (Value.int .i64) w b off zs.toArray:=by
 let a:w.heap[b]?=some (.cells cur E (0,0)):=c.heap (by simp)
 let a:∀l:aR,l.flatMap ca=l.map (Value.int .i64):=by
  intro l
  induction l with
  |nil=>rfl
  |cons x l a=>rw[ac8,a];rfl
 intro j a;let a:j<zs.length:=by omega
 let a:=acd (·[j]?) h
 grind[World.cell?,World.frozen?]
def DJ(L:Go.Proofs.SlLaysN.n53 P V)(g:aF ca E 1 a n k xs c)(m:X W w (c::O))(p:n<4611686018427387904):
 Calls P (V.f 53) #[.slice a n k] w λe l=>∃d:af,e=.returned (.tuple #[])/\aF ca E 1 a n k (xs.mergeSort λx y=>decide (x<=y)) d/\X W l (d::O):=by
 obtain⟨h1,j,f,d⟩:=g;by_cases h0:n=0
 ·subst h0;have hx:xs=[]:=acZ h1;subst hx;refine(AnyG.slices_Sort_int_none L a k w).mono ?_;rintro e l⟨rfl,rfl⟩;have e:([]:aR).mergeSort (λx y=>decide (x<=y))=[]:=acZ (List.length_mergeSort _);exact⟨c,rfl,by rw[e];exact⟨h1,j,f,d⟩,m⟩
 ·rcases d with⟨_,h,_⟩|⟨b,off,d,rfl,rfl,h,o,i,g⟩
  ·exact absurd h h0
  ·have f:w.heap[b]?=some (.cells d E (0,0)):=m.heap (by simp);have d:b<w.heap.size:=(adF.1 f).1;subst h1;rw[aeu] at g i;refine(AnyG.slices_Sort_int L b off k xs w (holds_of m g) d p).mono ?_;rintro e l⟨rfl,q,os,rfl⟩;have d:(xs.mergeSort λx y=>decide (x<=y)).length=xs.length:=List.length_mergeSort _;refine⟨_,rfl,⟨d,j,by rw[eO j,d],.inr ⟨b,off,_,rfl,rfl,h,o,by rw[tg,aeu];exact i,?_⟩⟩,yu m⟩;rw[aeu,<-d];exact td (by rw[d];omega)
def D6(L:Go.Proofs.SlLaysN.n43 P V)(h:aF ca E 1 a n k xs c)(l:X W w (c::O)):
 Calls P (V.f 43) #[.slice a n k] w λe g=>∃(m:Nat) (d:af),e=.returned (.slice a m k)/\aF ca E 1 a m k (Go.Lib.compact xs) d/\X W g (d::O):=by
 obtain⟨h1,j,f,d⟩:=h;by_cases h0:n=0
 ·subst h0;have hx:xs=[]:=acZ h1;subst hx;refine(AnyG.slices_Compact_int_empty L a k w).mono ?_;rintro e g⟨rfl,rfl⟩;exact⟨0,c,rfl,⟨rfl,j,f,d⟩,l⟩
 ·rcases d with⟨_,f,_⟩|⟨b,off,h,rfl,rfl,f,o,i,d⟩
  ·exact absurd f h0
  ·subst h1;rw[aeu] at d i;refine(AnyG.slices_Compact_int L b off k xs w (holds_of l d) (by have:maxLen<=9223372036854775807:=(by decide);omega) f).mono ?_;rintro e g⟨rfl,q,rfl⟩
   have f:(Go.Lib.compact xs).length<=xs.length:=by
    unfold Go.Lib.compact Go.Lib.compactUpTo;rw[acf];exact adG (ade _ _) (by simp)
   have hlen:(Go.Lib.compact xs++List.replicate (xs.length-(Go.Lib.compact xs).length) (0:Int)).length=xs.length:=by simp;omega
   have d:=yu (q:=q) (off:=off) (zs:=Go.Lib.compact xs++List.replicate (xs.length-(Go.Lib.compact xs).length) (0:Int)) (os:=#[]) l;rw[grow_empty] at d;refine⟨_,_,rfl,⟨rfl,j,by rw[eO j],.inr ⟨b,off,_,rfl,rfl,by omega,o,by rw[tg,aeu];exact i,?_⟩⟩,d⟩;have hp:=td (off:=off) (cur:=h) (zs:=Go.Lib.compact xs++List.replicate (xs.length-(Go.Lib.compact xs).length) (0:Int)) (by rw[hlen];omega);have d:=acd (·.take (Go.Lib.compact xs).length) hp;rw[aeO,adH (by rw[hlen];exact f),ad5] at d;rw[aeu,d];have d:((Go.Lib.compact xs).flatMap ca).length=(Go.Lib.compact xs).length:=by rw[eO j,aeu]
   rw[<-d,List.take_left]
end
end Go.E
