import Derived.OpenShut
import Derived.Laws.BytesString
import Derived.Laws.Shifts
import Derived.Laws.IdiomStrings
import Derived.Test.YtmfebppagcejcaaGreatMWYAl
set_option linter.all false
namespace Go.E
section
variable{P:Program}{n:Nat}{V:Env}{W w:World}{O:cj}{ops:Array Oper}{rest:List Oper}{N:Env->World->Prop}{o:Oper}
def wrap_i64{x:Int}(h:-9223372036854775808<=x/\x<=9223372036854775807):IntKind.i64.wrap x=x:=IntWalk.i64_in x h
def rJ{op:BinOp}{t u:TypeId}{x y:Operand}{a b:Int}{v:Value}(c:o.op=.binOp op t x y u)(hx:ev V x=.int .i64 a)(hy:ev V y=.int .i64 b)
 (c:(binOp op t (.int .i64 a) (.int .i64 b)).run P w=.ok v w):Yields P V o v w:=by
 simp_all[Yields,execOp,eqGuard]
def PB{t u:TypeId}{x y:Operand}{a b:Int}(d:o.op=.binOp .add t x y u)(hx:ev V x=.int .i64 a)(hy:ev V y=.int .i64 b)
 (c:-9223372036854775808<=a+b/\a+b<=9223372036854775807):Yields P V o (.int .i64 (a+b)) w:=
 rJ d hx hy QF
def Ps{t u:TypeId}{x y:Operand}{a b:Int}(d:o.op=.binOp .sub t x y u)(hx:ev V x=.int .i64 a)(hy:ev V y=.int .i64 b)
 (c:-9223372036854775808<=a-b/\a-b<=9223372036854775807):Yields P V o (.int .i64 (a-b)) w:=
 rJ d hx hy QF
def Pq{t u:TypeId}{x y:Operand}{a b:Int}(d:o.op=.binOp .mul t x y u)(hx:ev V x=.int .i64 a)(hy:ev V y=.int .i64 b)
 (c:-9223372036854775808<=a*b/\a*b<=9223372036854775807):Yields P V o (.int .i64 (a*b)) w:=
 rJ d hx hy QF
def UR{t u:TypeId}{x y:Operand}{a b:Int}(d:o.op=.binOp .rem t x y u)(hx:ev V x=.int .i64 a)(hy:ev V y=.int .i64 b)(c:b≠0):Yields P V o (.int .i64 (a.tmod b)) w:=
 rJ d hx hy (by simp[binOp,Op.intDiv,c])
def Vh{t u:TypeId}{x y:Operand}{a b:Int}(g:o.op=.binOp .quo t x y u)(hx:ev V x=.int .i64 a)(hy:ev V y=.int .i64 b)(e:0<b)
 (d:-9223372036854775808<=a/\a<=9223372036854775807):Yields P V o (.int .i64 (a.tdiv b)) w:=by
 let f:-9223372036854775808<=a.tdiv b/\a.tdiv b<=9223372036854775807:=by
  rcases Int.le_total 0 a with ha|ha
  ·let h1:=Int.tdiv_nonneg ha (Int.le_of_lt e);let d:=Int.tdiv_le_self (b:=b) (a:=a) ha;omega
  ·obtain⟨c,rfl⟩:∃c,a=-c:=⟨-a,by omega⟩;let hc:0<=c:=by omega
   let h1:=Int.tdiv_nonneg hc (Int.le_of_lt e);let d:=Int.tdiv_le_self (b:=b) (a:=c) hc;rw[Int.neg_tdiv];omega
 exact rJ g hx hy (by simp[binOp,Op.intDiv,Int.ne_of_gt e,wrap_i64 f])
def xc{len cap lo hi:Nat}{a high:Option Value}(b:(a=none/\lo=0)\/∃k i,a=some (.int k i)/\i.toNat=lo/\0<=i)(c:(high=none/\hi=len)\/∃k i,high=some (.int k i)/\i.toNat=hi/\0<=i)
 (h1:lo<=hi) (f:hi<=cap):(Instr.sliceBounds true len cap a high none).run P w=.ok (lo,hi,cap) w:=by
 let d:∀(i:Int) (y:Nat),0<=i->i.toNat<=y->(0<=i/\i<=(y:Int)):=λi y h a=>⟨h,by omega⟩;rcases b with⟨rfl,rfl⟩|⟨k,i,rfl,rfl,b⟩<;>rcases c with⟨rfl,rfl⟩|⟨a,c,rfl,rfl,a⟩
 ·simp[Instr.sliceBounds]
 ·simp[Instr.sliceBounds,Instr.sliceBound,asIntOf,d _ _ a f]
 ·simp[Instr.sliceBounds,Instr.sliceBound,asIntOf,d _ _ b h1]
 ·let e:=d i c.toNat b h1;let b:=d c cap a f;simp only[Instr.sliceBounds,Instr.sliceBound,asIntOf];simp only[Sem.run_bind,Sem.run_pure,Result.andThen,aca b,aca e]
def bZ(a:cf)(cap lo sz:Nat):cf:=if cap=lo then a else a.map (·.add (lo*sz))
def RV{t E:TypeId}{x:Operand}{lo hi mx:Option Operand}{a:cf}{len cap l h sz:Nat}(j:o.op=.slice t x lo hi mx)(f:mx=none)(g:∀w,(underlying t).run P w=.ok (.slice E) w)
 (e:∀w,(sizeOf E).run P w=.ok sz w) (hx:ev V x=.slice a len cap)
 (c:(lo.map (ev V)=none/\l=0)\/∃k i,lo.map (ev V)=some (.int k i)/\i.toNat=l/\0<=i) (b:(hi.map (ev V)=none/\h=len)\/∃k i,hi.map (ev V)=some (.int k i)/\i.toNat=h/\0<=i)
 (h1:l<=h) (d:h<=cap):Yields P V o (.slice (bZ a cap l sz) (h-l) (cap-l)) w:=by
 unfold Yields execOp;rw[j,f];simp[Instr.sliceAt,g,Instr.slice,hx,xc c b h1 d,e,bZ]
def Bt.part{a:cf}{len cap lo hi sz:Nat}{l:fa}(h:Bt O sz a len cap l)(h1:lo<=hi)(e:hi<=len):
 Bt O sz (bZ a cap lo sz) (hi-lo) (cap-lo) ((l.drop (lo*sz)).take ((hi-lo)*sz)):=by
 obtain⟨c,hc,c,d⟩:=h;have c:hi*sz<=len*sz:=acA _ e;have c:lo*sz<=hi*sz:=acA _ h1;have c:(hi-lo)*sz=hi*sz-lo*sz:=Nat.sub_mul ..;refine⟨by simp;omega,by omega,by omega,?_⟩;by_cases he:hi-lo=0
 ·exact .inl he
 ·rcases d with d|⟨b,off,rfl,hp⟩
  ·omega
  ·have c:¬cap=lo:=by omega
   refine .inr ⟨b,off+lo*sz,by simp[bZ,c,fD],?_⟩;exact hp.sub _ _ (by omega)
def nN.part{E:TypeId}{a:cf}{len cap lo hi sz:Nat}{l:fa}{c:af}(h:nN E sz a len cap l c)(h1:lo<=hi)(e:hi<=len):
 nN E sz (bZ a cap lo sz) (hi-lo) (cap-lo) ((l.drop (lo*sz)).take ((hi-lo)*sz)) c:=by
 obtain⟨d,f⟩:=h;have d:hi*sz<=len*sz:=acA _ e;have d:lo*sz<=hi*sz:=acA _ h1;have d:(hi-lo)*sz=hi*sz-lo*sz:=Nat.sub_mul ..;refine⟨by simp;omega,?_⟩;rcases f with⟨rfl,rfl,rfl,rfl⟩|⟨b,off,e,rfl,rfl,d,d,hf,f⟩
 ·have:lo=0:=by omega
  have:hi=0:=by omega
  subst_vars
  exact .inl ⟨by rfl,by simp,by simp,rfl⟩
 ·right;by_cases d:cap=lo
  ·have h0:hi=lo:=by omega
   subst h0;exact⟨b,off,e,by simp[bZ,d],rfl,by omega,by omega,by rw[d];simp;omega,by simp⟩
  ·refine⟨b,off+lo*sz,e,by simp[bZ,d,fD],rfl,by omega,by omega,?_,?_⟩
   ·have:(cap-lo)*sz=cap*sz-lo*sz:=Nat.sub_mul ..;have:lo*sz<=cap*sz:=acA _ (by omega);omega
   ·rw[<-f,List.drop_take,aeO,List.drop_drop];congr 1;omega
def wT{t E:TypeId}{x y:Operand}{p:Addr}{k:IntKind}{i:Int}{len cap sz:Nat}(b:o.op=.indexAddr t x y)(c:∀w,(underlying t).run P w=.ok (.slice E) w)(a:∀w,(sizeOf E).run P w=.ok sz w)
 (hx:ev V x=.slice (some p) len cap) (hy:ev V y=.int k i) (h0:0<=i) (h1:i<len):Yields P V o (.pointer (some (p.add (i.toNat*sz)))) w:=by
 unfold Yields execOp;rw[b];simp[Instr.indexAt,hx,hy,asIntOf,c,a,h0,h1]
def Rg{t E:TypeId}{x y:Operand}{a:cf}{k:IntKind}{i:Int}{len cap sz:Nat}{l:fa}(j:o.op=.indexAddr t x y)(hg:o.guard=none)(g:cV n o.dst=true)
 (f:∀w,(underlying t).run P w=.ok (.slice E) w) (e:∀w,(sizeOf E).run P w=.ok sz w)
 (hx:ev V x=.slice a len cap) (hy:ev V y=.int k i) (d:Bt O sz a len cap l) (h0:0<=i) (h1:i<len)
 (h:∀b off,na O b off ((l.drop (i.toNat*sz)).take sz)->aZ P n ops rest N (put V o.dst (.pointer (some ⟨b,off,none⟩))) w):aZ P n ops (o::rest) N V w:=by
 obtain⟨c,hc,c,c⟩:=d;rcases c with c|⟨b,off,rfl,hp⟩
 ·omega
 ·have d:i.toNat+1<=len:=by omega
  have c:(i.toNat+1)*sz<=len*sz:=acA _ d;rw[ac1,adi] at c;refine bh _ hg g (wT j f e hx hy h0 h1) ?_;rw[fD];exact h b _ (hp.sub _ _ (by omega))
def vT(t ty e:TypeId)(i:TypeInfo)(j:P.underlying t=some (.slice e))(hi:P.info? e=some i)
 (g off d f:Nat) (cur:nO) (hg:w.heap[g]?=some (.cells cur e (0,0)))
 (a:cf) (m c:Nat) (news:fa) (hf:(Builtin.firstCells i.size m (.slice a m c)).run P w=.ok news.toArray w) (h1:∀u∈news,u.oneCell'=true)
 (h:d+m<=f) (b:off+d*i.size+news.length<=cur.size):
 (Builtin.append_ #[t,t] ty #[.slice (some ⟨g,off,none⟩) d f,.slice a m c]).run P w=
  .ok (.slice (some ⟨g,off,none⟩) (d+m) f) (w.setRow g (wr cur (off+d*i.size) news)):=by
 let b:=run_storeCells_at P g (off+d*i.size) e news 0 cur w hg (by omega) h1;simp only[adB] at b;simp[Builtin.append_,run_underlying j,sizeOf,typeInfo,hi,Builtin.lenOf,h,hf,fD,b,wr]
def lc{sz m c:Nat}{a:cf}{l:fa}(g:X W w O)(e:Bt O sz a m c l):(Builtin.firstCells sz m (.slice a m c)).run P w=.ok l.toArray w:=by
 obtain⟨f,hc,d,d⟩:=e;rcases d with rfl|⟨b,off,rfl,hp⟩
 ·have:l=[]:=acZ (by omega);subst this;cases a with
  |none=>exact run_firstCells_none w _ _ _ _
  |some p=>exact run_firstCells_some (P:=P) w sz 0 p 0 c [] (by simp) (by simp)
 ·exact run_firstCells_some (P:=P) w sz m ⟨b,off,none⟩ m c l f (λj v d=>by rw[fD];exact hp.cell g d)
def vv(t ty e:TypeId)(i:TypeInfo)(z:Value)(n:P.underlying t=some (.slice e))(hi:P.info? e=some i)(hz:i.zero=some z)
 (b:cf) (f g:Nat) (h:fa) (l:∀d:World,d.heap=w.heap->(Builtin.firstCells i.size f (.slice b f g)).run P d=.ok h.toArray d)
 (a:cf) (m c:Nat) (news:fa) (hf:∀d:World,d.heap=w.heap->(Builtin.firstCells i.size m (.slice a m c)).run P d=.ok news.toArray d)
 (hg:g<f+m) (d:((f+m:Nat):Int)<=9223372036854775807) (d:Builtin.nextslicecap (f+m) g*i.bytes<=281474976710656):
 (Builtin.append_ #[t,t] ty #[.slice b f g,.slice a m c]).run P w=
  .ok (.slice (some ⟨w.heap.size,0,none⟩) (f+m) (grownCap w (f+m) g e))
   (w.drew.alloc (.cells ((h++news).toArray++Builtin.zeroCells z.cells (grownCap w (f+m) g e-(f+m))) e)):=by
 let k:¬(f+m<=g):=by omega
 let j:¬(9223372036854775807<((f:Int)+m)):=by omega
 let h:¬(281474976710656<Builtin.nextslicecap (f+m) g*i.bytes):=by omega
 let f:=hf w.drew Z;let d:=l w.drew Z;simp[Builtin.append_,run_underlying n,sizeOf,typeInfo,zeroValue,hi,hz,Builtin.lenOf,k,j,h,Question.forced,f,d,newRow,grownCap]
 grind
def BW{w':World}{sz m c:Nat}{a:cf}{l:fa}(b:X W w O)(d:Bt O sz a m c l)(e:w'.heap=w.heap):(Builtin.firstCells sz m (.slice a m c)).run P w'=.ok l.toArray w':=
 lc (W:=w') (O:=O) ⟨rfl,rfl,rfl,b.nd,λp hp=>by rw[e];exact b.all p hp⟩ d
def Hz{t ty E:TypeId}{i:TypeInfo}{z:Value}{sz nb:Nat}(B:P.underlying t=some (.slice E))(hi:P.info? E=some i)(hz:i.zero=some z)(n:i.size=sz)(q:i.bytes=nb)(C:z.cells.size=sz)
 {a y:cf} {m cap k c2:Nat} {l news:fa} {c:af} (r:X W w O) (o:nN E sz a m cap l c) (j:Nat) (x:O[j]?=some c) (s:Bt O sz y k c2 news) (h1:∀u∈news,u.oneCell'=true)
 (D:(m+k)*nb<=140737488355328) (A:m+k<=maxLen):
 ∃f d g v,(Builtin.append_ #[t,t] ty #[.slice a m cap,.slice y k c2]).run P w=.ok (.slice f (m+k) d) v/\nN E sz f (m+k) d (l++news) g/\X W v (O.set j g):=by
 subst n;subst q;have q:Bt O i.size a m cap l:=o.rd (λp hp=>CY j x hp);have hlen:(l++news).length=(m+k)*i.size:=by rw[acm,o.1,s.1,ac1]
 have d:m<=cap:=o.Hc.1;have d:m+k<=9223372036854775807:=by grind[maxLen]
 by_cases f:m+k<=cap
 ·rcases o.2 with⟨rfl,rfl,rfl,rfl⟩|⟨b,off,n,rfl,rfl,g,o,hf,d⟩
  ·have d:k=0:=by omega
   subst d;have g:news=[]:=acZ dV;have d:l=[]:=acZ dV;subst g;subst d;have d:=lc (P:=P) r s;refine⟨none,0,[],w,?_,nN.nil E i.size,r.set j x (λh=>h)⟩;simp[Builtin.append_,run_underlying B,sizeOf,typeInfo,hi,Builtin.lenOf,d]
  ·have d:(m+k)*i.size<=cap*i.size:=acA _ f;have d:(m+k)*i.size=m*i.size+k*i.size:=ac1 ..;have d:=s.1;have g:=vT (P:=P) (w:=w) t ty E i B hi b off m cap n (r.at j x) y k c2 news (lc (P:=P) r s) h1 f (by omega);refine⟨_,cap,_,_,g,⟨hlen,.inr ⟨b,off,_,rfl,rfl,f,o,?_,?_⟩⟩,r.rowAt j x _⟩
   ·rw[xy (by omega)];exact hf
   ·have:=Dd (cur:=n) (off:=off) (m:=(m+k)*i.size) (i:=m*i.size) (vs:=news) (by omega) (by omega);rw[this]
    have f:((n.toList.drop off).take ((m+k)*i.size)).take (m*i.size)=l:=by
     grind
    have d:((n.toList.drop off).take ((m+k)*i.size)).drop (m*i.size+news.length)=[]:=by
     simp_all
    simp[Ai,f,d]
 ·have d:cap<m+k:=by omega
  have g:=vv (P:=P) (w:=w) t ty E i z B hi hz a m cap l (λv e=>BW r q e) y k c2 news (λv e=>BW r s e) d (by omega) (growslice_fits d D);have d:=grownCap_ge w (m+k) cap E;refine⟨_,_,[(w.heap.size,.cells ((l++news).toArray++Builtin.zeroCells z.cells (grownCap w (m+k) cap E-(m+k))) E)],_,g,⟨hlen,.inr ⟨w.heap.size,0,_,rfl,rfl,d,grownCap_le_maxLen w _ _ _ A,?_,?_⟩⟩,?_⟩
  ·simp only[Array.size_append,List.size_toArray,size_zeroCells,C,hlen,<-ac1,aez];exact Nat.le_of_eq dV
  ·simp only[Array.toList_append,ado];rw[<-hlen];exact List.take_left
  ·have d:X W w.drew O:=r.drew;have g:=(d.alloc (.cells ((l++news).toArray++Builtin.zeroCells z.cells (grownCap w (m+k) cap E-(m+k))) E));have f:=g.sV (j+1) (by simpa using x);have d:=f.tail;simp only[List.eraseIdx_cons_succ] at d;exact d.perm<|have d:=(qW O j c [(w.heap.size,.cells ((l++news).toArray++Builtin.zeroCells z.cells (grownCap w (m+k) cap E-(m+k))) E)] x).symm;d
def GN{t E:TypeId}{xs:Array Operand}{ats:Array TypeId}{x y:Operand}{i:TypeInfo}{z:Value}{sz nb:Nat}(M:o.op=.call {callee:=.builtin .append,args:=xs,argTypes:=ats})(H:xs=#[x,y])(A:ats=#[t,t])(hg:o.guard=none)(L:cV n o.dst=true)
 (K:P.underlying t=some (.slice E)) (hi:P.info? E=some i) (hz:i.zero=some z) (q:i.size=sz) (C:i.bytes=nb) (B:z.cells.size=sz)
 {a b:cf} {m cap k c2:Nat} {l news:fa} {c:af} (hx:ev V x=.slice a m cap) (hy:ev V y=.slice b k c2) (J:X W w O) (I:nN E sz a m cap l c) (j:Nat) (G:O[j]?=some c) (F:Bt O sz b k c2 news) (h1:∀u∈news,u.oneCell'=true)
 (D:(m+k)*nb<=140737488355328) (r:m+k<=maxLen)
 (h:∀g b p f,nN E sz g (m+k) b (l++news) p->X W f (O.set j p)->aZ P n ops rest N (put V o.dst (.slice g (m+k) b)) f):aZ P n ops (o::rest) N V w:=by
 let⟨g,b,p,f,s,e,d⟩:=Hz (P:=P) (ty:=o.type) K hi hz q C B J I j G F h1 D r;refine jt (v:=.slice g (m+k) b) (w':=f) hg L ?_ (h g b p f e d);subst H;subst A;unfold execOp;rw[M];simp only[resolve,invoke,builtin,aeB,acC,adA,hx,hy];simp[s]
def MP{t E:TypeId}{x y:Operand}{i:TypeInfo}{z:Value}{sz nb:Nat}{kl kc:IntKind}{m:Nat}(ho:o.op=.makeSlice t x y)(hg:o.guard=none)(hd:cV n o.dst=true)
 (ht:P.underlying t=some (.slice E)) (hi:P.info? E=some i) (hz:i.zero=some z) (hsize:i.size=sz) (hby:i.bytes=nb)
 (hx:ev V x=.int kl m) (hy:ev V y=.int kc m) (hS:X W w O) (hb:nb*m<=281474976710656) (h63:m<=maxLen)
 (h:∀b c w',nN E sz (some ⟨b,0,none⟩) m m (madeCells z.cells (m*sz)).toList c->X W w' (c::O)->aZ P n ops rest N (put V o.dst (.slice (some ⟨b,0,none⟩) m m)) w'):aZ P n ops (o::rest) N V w:=by
 subst hby;let⟨w',hr,ho',hgr⟩:=run_make_full (P:=P) w w.heap.size t E i z sz ht hi hz hsize kl kc m hb h63 (acS _);obtain⟨hl,⟨h0,_⟩|⟨g,cap,cur,he,hge,hh,hn,hcm,hcs,htk⟩⟩:=ho'
 ·cases h0
 ·simp only[Value.slice.injEq,adh,Addr.mk.injEq,and_true] at he;let⟨he,_,hcap⟩:=he;subst he;subst hcap;refine jt (v:=.slice (some ⟨w.heap.size,0,none⟩) m m) (w':=w') hg hd ?_ (h w.heap.size [(w.heap.size,.cells cur E (0,0))] w' ⟨hl,.inr ⟨w.heap.size,0,cur,rfl,rfl,hn,hcm,by omega,by simpa using htk⟩⟩ ?_)
  ·unfold execOp;rw[ho];simp[hx,hy,hr]
  ·refine⟨hgr.os.trans hS.os,hgr.tape.trans hS.tape,hgr.output.trans hS.output,?_,?_⟩
   ·simp only[acU,adb,acC,adP];refine⟨λhm=>?_,hS.nd⟩;let⟨p,hp,he⟩:=acG.1 hm;let:=hS.lt (b:=p.1) (o:=p.2) hp;omega
   ·intro p hp;simp only[acU,adb,acw] at hp;rcases hp with rfl|hp
    ·exact hh
    ·let hl:=hS.lt (b:=p.1) (o:=p.2) hp;rw[hgr.block p.1 hl (by simp)];exact hS.all p hp
end
end Go.E
namespace Go.E
section
variable{P:Program}{ops:Array Oper}{C:World->Prop}{E:gB}
theorem tH{listed:Array Bool}{i:Nat}(h:listed.getD i true=false):listed.getD i false=false:=by
 grind
def wv(m j:Nat):(Array.replicate m false).getD j false=false:=by
 rcases Nat.lt_or_ge j m with h|h<;>simp[h]
def only(N:Act->World->Prop):Exit->Act->World->Prop:=λe a w=>e=.normal/\N a w
def Ew(N:Act->World->Prop):¬LetsOut (only N):=λ⟨_,_,h,_⟩=>kv
def rel(ops:Array Oper)(E:gB)(i:Nat)(listed:Array Bool):Bool:=
 E.any λs=>listed.getD s false&&(match ops[s]? with|some o=>o.after.any λe=>Region.binds .any e&&e.on==i|none=>false)
abbrev en:=List (Nat×Addr×Value)
def eI(ops:Array Oper)(E:gB)(listed:Array Bool)(w:World):en->Prop
 |[]=>True
 |(i,p,v)::L=>(rel ops E i listed=true\/w.cell? p=some v)/\eI ops E listed w L
def nE(L:en)(i:Nat)(w:World):Prop:=∀(k:Nat) (p:Addr) (v:Value),L[k]?=some (i,p,v)->w.cell? p=some v
def n9{listed:Array Bool}{w:World}{i:Nat}(hr:rel ops E i listed=false):∀{L:en},eI ops E listed w L->nE L i w
 |[],_=>λk p v h=>by simp at h
 |(i',p',v')::L,h=>λk p v hk=>by
  cases k with
  |zero=>
   simp only[List.getElem?_cons_zero,adh,aeF] at hk;obtain⟨rfl,rfl,rfl⟩:=hk;rcases h.1 with h|h
   ·rw[hr] at h;cases h
   ·exact h
  |succ k=>exact n9 hr h.2 k p v (by simp_all)
def mH(P:Program)(ops:Array Oper)(E:gB)(L:en)(N:Act->World->Prop):Nat->Array Bool->Act->World->Prop
 |0,listed,a,w=>eI ops E listed w L/\Region.ready .any ops listed=[]/\N a w
 |f+1,listed,a,w=>eI ops E listed w L/\(Region.ready .any ops listed=[]->N a w)/\∀i∈Region.ready .any ops listed,wpOp P ops (only N) i (mH P ops E L N f (listed.setIfInBounds i true)) a w
def mH.cls{L:en}{N:Act->World->Prop}{f:Nat}{listed:Array Bool}{a:Act}{w:World}(h:mH P ops E L N f listed a w):eI ops E listed w L:=by
 cases f<;>exact h.1
def tp{L:en}{N:Act->World->Prop}:∀(f:Nat) (listed:Array Bool) (a:Act) (w:World),mH P ops E L N f listed a w->wpAny P .any ops (only N) f listed a w
 |0,_,_,_,h=>⟨h.2.1,rfl,h.2.2⟩
 |f+1,_,_,_,h=>⟨λh0=>⟨rfl,h.2.1 h0⟩,λi d=>wpOp_mono (λc b=>tp f _ c b) (h.2.2 i d)⟩
def lH(P:Program)(ops:Array Oper)(C:World->Prop)(o:Oper)(v:Value)(a:Act):Prop:=
 (Region.wanted o (yielded ops a.tmps)=true/\∀w,C w->(execOp a.eval o).run P w=.ok (.value v) w)\/(Region.wanted o (yielded ops a.tmps)=false/\v=undef)
def lH.op{N:Act->World->Prop}{i:Nat}{o:Oper}{v:Value}{a:Act}{w:World}(hi:ops[i]?=some o)(hy:lH P ops C o v a)(hc:C w){K:Act->World->Prop}(h:K (a.put o.dst v) w):
 wpOp P ops (only N) i K a w:=by
 unfold wpOp;simp only[hi];rcases hy with⟨hw,b⟩|⟨hw,rfl⟩
 ·simp only[hw,aeG,Oper.wp,b w hc,Oper.upon];exact .inl h
 simp_all
def lH.of_same{o:Oper}{v:Value}{a a':Act}(hy:lH P ops C o v a)(he:execOp a'.eval o=execOp a.eval o)
 (hw:Region.wanted o (yielded ops a'.tmps)=Region.wanted o (yielded ops a.tmps)):lH P ops C o v a':=by
 grind[lH]
def wpOp_put{N:Act->World->Prop}{j:Nat}{oi oj:Oper}{v:Value}(hj:ops[j]?=some oj)(hap:oi.apart ops oj=true)
 (hsi:∀O b,oi.op≠ .select O b) (hsj:∀O b,oj.op≠ .select O b) {K:Act->World->Prop} {a:Act} {w:World}
 (hy:lH P ops C oi v a) (h:wpOp P ops (only N) j K (a.put oi.dst v) w):
 wpOp P ops (only N) j (λa' w'=>lH P ops C oi v a'/\K (a'.put oi.dst v) w') a w:=by
 let⟨h1,h2,h3⟩:=Oper.apart_spec hap
 let keep:∀(a:Act),lH P ops C oi v a->∀u,lH P ops C oi v (a.put oj.dst u):=λa hy u=>
  hy.of_same (execOp_put oi hsi a oj.dst u h3) (wanted_put oi a oj.dst u h3)
 let keepd:∀(d:Deferred),∀u,lH P ops C oi v ({a with defers:=d::a.defers}.put oj.dst u):=λd u=>by
  let h0:=keep a hy u;refine h0.of_same ?_ ?_
  ·congr 1
   funext x
   cases x<;>cases hd:oj.dst<;>simp[Act.eval,Act.put]
  ·congr 2
   cases hd:oj.dst<;>simp[Act.put]
 unfold wpOp at*;simp only[hj] at*;rw[wanted_put oj a oi.dst v h1] at h;split
 ·rename_i hw;simp only[hw,aeG] at h;rcases h with h|⟨_,h⟩
  case inr=>exact absurd h (Ew N)
  left;unfold Oper.wp at*;rw[execOp_put oj hsj a oi.dst v h1] at h
  generalize (execOp a.eval oj).run P w=r at*
  cases r with
  |ok nx w'=>
   cases nx<;>simp only[Oper.upon] at h⊢
   case value u=>exact⟨keep a hy u,by rw[<-Act.put_comm a v u h2];exact h⟩
   case skip=>exact⟨keep a hy _,by rw[<-Act.put_comm a v undef h2];exact h⟩
   case defer d=>
    refine⟨keepd d _,?_⟩
    let e:({a with defers:=d::a.defers}.put oj.dst undef).put oi.dst v=({a.put oi.dst v with defers:=d::(a.put oi.dst v).defers}:Act).put oj.dst undef:=by
     let:=Act.put_comm {a with defers:=d::a.defers} v undef h2;rw[<-this];congr 1;cases hd:oi.dst<;>simp[Act.put]
    rw[e];exact h
   case enter f args=>
    refine h.mono λe w'' he=>?_;cases e with
    |returned u=>exact⟨keep a hy u,by rw[<-Act.put_comm a v u h2];exact he⟩
    |panicked c=>exact absurd he.1 (by simp)
    |outgrown=>exact absurd he (Ew N)
   case row row args=>
    exact h.mono λu w'' he=>⟨keep a hy u,by rw[<-Act.put_comm a v u h2];exact he⟩
  |halt x w'=>cases x<;>simp only[Oper.upon] at h<;>first|exact h.elim|exact absurd h.1 (by simp)
 ·rename_i hw;simp only[hw] at h;exact⟨keep a hy _,by rw[<-Act.put_comm a v undef h2];exact h⟩
def oF(ops:Array Oper)(listed:Array Bool):Prop:=∀j oj,ops[j]?=some oj->listed.getD j false=true->∀e∈oj.after,Region.binds .any e=true->listed.getD e.on false=true
def oF.set{listed:Array Bool}{i:Nat}(h:oF ops listed)(hi:i∈Region.ready .any ops listed):oF ops (listed.setIfInBounds i true):=by
 obtain⟨_,d,c,b⟩:=mem_ready.1 hi;intro j f k g e he l;by_cases a:i=j
 ·subst a;have:f=d:=ace (k.symm.trans c);subst this;exact getD_set_true (b e he l)
 ·rw[getD_set_ne false a] at g;exact getD_set_true (h j f k g e he l)
def Lj{listed:Array Bool}{i j:Nat}(hc:oF ops listed)(hi:i∈Region.ready .any ops listed)(hj:j∈Region.ready .any ops listed):
 rel ops E i ((listed.setIfInBounds i true).setIfInBounds j true)=false:=by
 obtain⟨hui,oi,hoi,halli⟩:=mem_ready.1 hi;obtain⟨huj,oj,hoj,hallj⟩:=mem_ready.1 hj;have hun:listed.getD i false=false:=tH hui;cases hr:rel ops E i ((listed.setIfInBounds i true).setIfInBounds j true) with
 |false=>rfl
 |true=>
  exfalso;unfold rel at hr;obtain⟨s,_,h2⟩:=adf.1 hr;simp only[ach] at h2;obtain⟨hl,h3⟩:=h2;split at h3
  ·rename_i os hos;obtain⟨e,he,hb⟩:=Array.any_eq_true'.1 h3;simp only[ach,acJ] at hb;by_cases hsj:j=s
   ·subst hsj;have:os=oj:=ace (hos.symm.trans hoj);subst this;have:=hallj e he hb.1;rw[hb.2,hun] at this;cases this
   ·rw[getD_set_ne false hsj] at hl;by_cases hsi:i=s
    ·subst hsi;have:os=oi:=ace (hos.symm.trans hoi);subst this;have:=halli e he hb.1;rw[hb.2,hun] at this;cases this
    ·rw[getD_set_ne false hsi] at hl;have:=hc s os hos hl e he hb.1;rw[hb.2,hun] at this;cases this
  ·cases h3
def ud{L:en}{N:Act->World->Prop}{i:Nat}{r:Oper}{v:Value}(D:E.contains i=false)(hi:ops[i]?=some r)(g:∀(j:Nat) (o:Oper) O b,ops[j]?=some o->o.op≠ .select O b):
 ∀(c:Nat) (listed:Array Bool) (a:Act) (w:World),oF ops listed->
  (∀j q,ops[j]?=some q->j≠i->listed.getD j true=false->(∀e∈q.after,Region.binds .any e=true->e.on≠i)->r.apart ops q=true)->
  i∈Region.ready .any ops listed->lH P ops (nE L i) r v a->nE L i w->eI ops E listed w L->
  mH P ops E L N c (listed.setIfInBounds i true) (a.put r.dst v) w->mH P ops E L N (c+1) listed a w:=by
 intro c
 induction c with
 |zero=>
  intro listed a w _ _ A hy hc hh H;refine⟨hh,λh=>dV,λj y=>?_⟩;by_cases n:j=i
  ·subst n;exact hy.op hi hc H
  ·let:=ready_mono y n;rw[H.2.1] at this;cases this
 |succ c C=>
  intro listed a w z l A hy hc hh H;refine⟨hh,λh=>dV,λj y=>?_⟩;by_cases n:j=i
  ·subst n;exact hy.op hi hc H
  ·let h1:=H.2.2 j (ready_mono y n);let⟨m,q,f,c⟩:=mem_ready.1 y
   let d:∀e∈q.after,Region.binds .any e=true->e.on≠i:=λe he c c=>by
    grind[mem_ready,tH]
   let t:=wpOp_put f (l j q f n m d) (λO b=>g i r O b hi) (λO b=>g j q O b f) hy h1
   let q:∀k ok,ops[k]?=some ok->k≠i->(listed.setIfInBounds j true).getD k true=false->
    (∀e∈ok.after,Region.binds .any e=true->e.on≠i)->r.apart ops ok=true:=λk ok g d f c=>by
    refine l k ok g d ?_ c;by_cases c:j=k
    ·subst c;exact m
    ·rw[getD_set_ne true c] at f;exact f
   refine wpOp_mono (λB l u=>?_) t;let c:=Lj (E:=E) z A y;let g:=u.2.cls;let r:=n9 c g
   let m:eI ops E (listed.setIfInBounds j true) l L:=by
    let same:∀x,rel ops E x ((listed.setIfInBounds i true).setIfInBounds j true)=rel ops E x (listed.setIfInBounds j true):=λx=>by
     unfold rel;rw[acI,adf,adf]
     let d:∀s∈E,((listed.setIfInBounds i true).setIfInBounds j true).getD s false=(listed.setIfInBounds j true).getD s false:=λs d=>by
      let c:i≠s:=λe=>by
       subst e;let:E.contains i=true:=by simpa using d
       rw[D] at this;cases this
      rw[Array.setIfInBounds_comm _ _ (Ne.symm n),getD_set_ne false c]
     constructor
     ·rintro⟨s,c,h⟩;exact⟨s,c,by rw[<-d s c];exact h⟩
     ·rintro⟨s,c,h⟩;exact⟨s,c,by rw[d s c];exact h⟩
    let f:∀M:en,eI ops E ((listed.setIfInBounds i true).setIfInBounds j true) l M->eI ops E (listed.setIfInBounds j true) l M:=by
     intro M
     induction M with
     |nil=>intro _;trivial
     |cons x M d=>
      let⟨c,p,v⟩:=x;intro hM;exact⟨by rw[<-same];exact hM.1,d hM.2⟩
    exact f L g
   refine C (listed.setIfInBounds j true) B l (z.set y) q (ready_mono A (Ne.symm n)) u.1 r m ?_;rw[Array.setIfInBounds_comm _ _ n];exact u.2
abbrev mv:=List (Bool×gB)
def rr(ops:Array Oper)(E:gB):List (Bool×Nat)->Array Bool->Bool
 |[],listed=>(Region.ready .any ops listed).isEmpty
 |(true,i)::s,listed=>(Region.ready .any ops listed).contains i&&Region.free .any ops listed i&&!E.contains i&&rr ops E s (listed.setIfInBounds i true)
 |(false,i)::s,listed=>decide (Region.ready .any ops listed=[i])&&rr ops E s (listed.setIfInBounds i true)
def ao(s:mv):List (Bool×Nat):=s.flatMap λx=>x.2.map λi=>(x.1,i)
def se(P:Program)(n:Nat)(ops:Array Oper)(C:World->Prop)(o:Oper)(v:Value)(V:Env):Prop:=
 (o.guard=none/\∀w,C w->Yields P V o v w)\/(∃j b,o.guard=some (j,b)/\rv ops V j n b/\∀w,C w->Yields P V o v w)\/(∃j b,o.guard=some (j,b)/\noY ops V j n b/\v=undef)
def fO(P:Program)(n:Nat)(ops:Array Oper)(E:gB)(L:en)(N:Env->World->Prop):List (Bool×Nat)->Array Bool->Env->World->Prop
 |[],_,V,w=>N V w
 |(true,i)::s,listed,V,w=>∃o v,ops[i]?=some o/\cV n o.dst=true/\se P n ops (nE L i) o v V/\fO P n ops E L N s (listed.setIfInBounds i true) (put V o.dst v) w
 |(false,i)::s,listed,V,w=>∃o,ops[i]?=some o/\aZ P n ops [o] (λV' w'=>eI ops E (listed.setIfInBounds i true) w' L/\fO P n ops E L N s (listed.setIfInBounds i true) V' w') V w
def se.at{n:Nat}{o:Oper}{v:Value}{V:Env}{a:Act}(ha:tQ n V a)(h:se P n ops C o v V):lH P ops C o v a:=by
 rcases h with⟨hg,hy⟩|⟨j,b,hg,c,hy⟩|⟨j,b,hg,c,rfl⟩
 ·exact .inl ⟨by simp[Region.wanted,hg],λw hw=>by rw[ha.eval];exact hy w hw⟩
 ·exact .inl ⟨by grind[Region.wanted,zT],λw hw=>by rw[ha.eval];exact hy w hw⟩
 ·exact .inr ⟨by grind[Region.wanted,wC],rfl⟩
def AF{listed:Array Bool}{i:Nat}(hc:oF ops listed)(hi:i∈Region.ready .any ops listed):rel ops E i listed=false:=by
 let⟨hui,_⟩:=mem_ready.1 hi;let hun:listed.getD i false=false:=tH hui;cases hr:rel ops E i listed with
 |false=>rfl
 |true=>
  exfalso;unfold rel at hr;let⟨s,_,h2⟩:=adf.1 hr;simp only[ach] at h2;let⟨hl,h3⟩:=h2;split at h3
  ·rename_i os hos;let⟨e,he,hb⟩:=Array.any_eq_true'.1 h3;simp only[ach,acJ] at hb;let:=hc s os hos hl e he hb.1;rw[hb.2,hun] at this;cases this
  ·cases h3
def Ag{n:Nat}{L:en}{N:Env->World->Prop}(hsel:Region.noSelect ops=true):∀(s:List (Bool×Nat)) (listed:Array Bool) (V:Env) (w:World) (a:Act),tQ n V a->oF ops listed->eI ops E listed w L->
 rr ops E s listed=true->fO P n ops E L N s listed V w->mH P ops E L (λa' w'=>∃V',tQ n V' a'/\N V' w') s.length listed a w
 |[],listed,V,w,a,ha,_,hc,hB,h=>⟨hc,by simpa [rr] using hB,V,ha,h⟩
 |(true,i)::s,listed,V,w,a,ha,hcl,hc,hB,h=>by
  simp only[rr,ach,adt] at hB;obtain⟨o,v,ho,hd,hs,hw⟩:=h;have hr:i∈Region.ready .any ops listed:=by simp_all
  have hh2:eI ops E (listed.setIfInBounds i true) w L:=by
   have hrl:∀x,rel ops E x listed=true->rel ops E x (listed.setIfInBounds i true)=true:=λx hx=>by
    unfold rel at*;obtain⟨s,hs1,h⟩:=adf.1 hx;simp only[ach] at h;exact adf.2 ⟨s,hs1,by simp only[ach];grind[getD_set_true]⟩
   have key:∀M:en,eI ops E listed w M->eI ops E (listed.setIfInBounds i true) w M:=by
    intro M
    induction M with
    |nil=>intro _;trivial
    |cons x M ihM=>
     obtain⟨i',p,v⟩:=x;intro hM;exact⟨hM.1.imp (hrl _) id,ihM hM.2⟩
   simp_all
  exact ud hB.1.2 ho (Region.noSelect_spec hsel) s.length listed a w hcl (Region.free_spec ho hB.1.1.2) hr (hs.at ha) (n9 (AF hcl hr) hc) hc
   (Ag hsel s _ _ w _ (ha.put hd v) (hcl.set hr) hh2 hB.2 hw)
 |(false,i)::s,listed,V,w,a,ha,hcl,hc,hB,h=>by
  simp only[rr,ach,acr] at hB;obtain⟨o,ho,hw⟩:=h;refine⟨hc,λh=>(by simp_all),λj hj=>?_⟩;have hj2:=hj;rw[hB.1] at hj;have hji:j=i:=by simp_all
  subst hji;have h1:=hw a ha (λe a' w'=>e=.normal/\∃V',tQ n V' a'/\eI ops E (listed.setIfInBounds j true) w' L/\fO P n ops E L N s (listed.setIfInBounds j true) V' w') (λV' a' w' hr hk=>⟨rfl,V',hr,hk⟩);unfold wpList at h1;unfold wpOp;simp only[ho]
  have fin:∀a' w',wpList P ops (λe a' w'=>e=.normal/\∃V',tQ n V' a'/\eI ops E (listed.setIfInBounds j true) w' L/\fO P n ops E L N s (listed.setIfInBounds j true) V' w') [] a' w'->
   mH P ops E L (λa' w'=>∃V',tQ n V' a'/\N V' w') s.length (listed.setIfInBounds j true) a' w':=λa' w' hh=>by
   obtain⟨_,V',hr,hc',hk⟩:=hh;exact Ag hsel s _ V' w' a' hr (hcl.set hj2) hc' hB.2 hk
  split
  ·rename_i hwant;simp only[hwant,aeG] at h1;rcases h1 with h1|⟨_,a0,w0,h1,_⟩
   case inr=>cases h1
   left;unfold Oper.wp at*
   generalize (execOp a.eval o).run P w=r at*
   cases r with
   |ok nx w'=>
    cases nx<;>simp only[Oper.upon] at h1⊢
    case value u=>exact fin _ _ h1
    case skip=>exact fin _ _ h1
    case defer d=>exact fin _ _ h1
    case enter f args=>
     refine h1.mono λe w'' he=>?_;cases e with
     |returned u=>exact fin _ _ he
     |panicked c=>exact absurd he.1 (by simp)
     |outgrown=>obtain⟨_,_,h,_⟩:=he;cases h
    case row row args=>exact h1.mono λu w'' he=>fin _ _ he
   |halt x w'=>cases x<;>simp only[Oper.upon] at h1<;>first|exact h1.elim|exact absurd h1.1 (by simp)
  ·rename_i hwant;simp only[hwant] at h1;exact fin _ _ h1
def kI{n:Nat}{K:Exit->Env->World->Prop}{V:Env}{w:World}{b:Nat}(E:gB)(L:en)(s:mv)(k:P.follows .mixedOrders=true)
 (f:(Region.noSelect ops&&decide ((ao s).length=ops.size)&&rr ops E (ao s) (Array.replicate ops.size false))=true) (g:eI ops E (Array.replicate ops.size false) w L)
 (h:fO P n ops E L (K .normal) (ao s) (Array.replicate ops.size false) V {w with drawn:=w.drawn+1}):bu P n (.region b ops true) K V w:=by
 intro a ha;simp only[ach,acr] at f;let d:oF ops (Array.replicate ops.size false):=λj b _ b=>by rw[wv] at b;cases b
 let c:eI ops E (Array.replicate ops.size false) {w with drawn:=w.drawn+1} L:=by
  clear f h
  induction L with
  |nil=>trivial
  |cons x L b=>let⟨i,p,v⟩:=x;exact⟨g.1,b g.2⟩
 let h1:=Ag f.1.1 (ao s) _ V _ a ha d c f.2 h;rw[f.1.2] at h1;refine wp_mono (wp_region_any k (tp _ _ _ _ h1)) λe b b f=>?_;obtain⟨rfl,d,b,c⟩:=f;exact⟨d,b,c⟩
variable{n:Nat}{L:en}{N:Env->World->Prop}{V:Env}{w:World}{s:mv}{listed:Array Bool}
def wN(h:N V w):fO P n ops E L N (ao []) listed V w:=h
def wO{i:Nat}{o:Oper}(c:ops[i]?=some o)(h:aZ P n ops [o] (λb a=>eI ops E (listed.setIfInBounds i true) a L/\fO P n ops E L N (ao s) (listed.setIfInBounds i true) b a) V w):
 fO P n ops E L N (ao ((false,[i])::s)) listed V w:=⟨o,c,h⟩
end
end Go.E
namespace Go.E
section
variable{P:Program}{n:Nat}{V:Env}{w:World}{ops:Array Oper}{rest:List Oper}{N:Env->World->Prop}
def c8{α:Type}(P:Program):Sem α->Option α
 | .pure a=>some a
 | .program k=>c8 P (k P)
 |_=>none
theorem dB{α:Type}(P:Program):∀(s:Sem α) (a:α),c8 P s=some a->∀w,s.run P w=.ok a w:=by
 intro s
 induction s with
 |pure b=>intro a h w;simp only[c8,adh] at h;subst h;rfl
 |program k c=>intro a h w;exact c P a h w
 |_=>intro a h;cases h
def Rr:Option Next->Value
 |some (.value v)=>v
 |_=>undef
def Y4:Option Next->Bool
 |some (.value _)=>true
 |_=>false
def fg(ops:Array Oper)(n:Nat)(V:Env):Option (Nat×Bool)->Option Bool
 |none=>some true
 |some (j,b)=>match (ops[j]?).bind (·.dst) with
  |some d=>bif Nat.blt d n then(match V d with| .bool b'=>some (b'==b)| .tuple _=>some false|_=>none) else none
  |none=>none
def goP(P:Program)(V:Env)(o:Oper):Option Bool->Value
 |some true=>Rr (c8 P (execOp (ev V) o))
 |_=>undef
def mW(P:Program)(n:Nat)(ops:Array Oper):List Oper->Env->Env
 |[],V=>V
 |o::l,V=>mW P n ops l (put V o.dst (goP P V o (fg ops n V o.guard)))
def okP(P:Program)(V:Env)(o:Oper):Option Bool->Bool
 |some true=>Y4 (c8 P (execOp (ev V) o))
 |some false=>true
 |none=>false
def iH(P:Program)(n:Nat)(ops:Array Oper):List Oper->Env->Bool
 |[],_=>true
 |o::l,V=>cV n o.dst&&okP P V o (fg ops n V o.guard)&&iH P n ops l (put V o.dst (goP P V o (fg ops n V o.guard)))
def iq{j:Nat}{b:Bool}(h:fg ops n V (some (j,b))=some true):rv ops V j n b:=by
 simp only[fg] at h;split at h
 ·rename_i d hd;cases hb:Nat.blt d n with
  |false=>simp[hb] at h
  |true=>
   simp only[hb,afi] at h;split at h
   ·rename_i b' hv;simp only[adh,acJ] at h;subst h;exact⟨d,hd,hb,hv⟩
   ·cases h
   ·cases h
 ·cases h
def AN{j:Nat}{b:Bool}(h:fg ops n V (some (j,b))=some false):noY ops V j n b:=by
 simp only[fg] at h;split at h
 ·rename_i d hd;cases hb:Nat.blt d n with
  |false=>simp[hb] at h
  |true=>
   simp only[hb,afi] at h;split at h
   ·rename_i b' hv;simp only[adh] at h;exact⟨d,hd,hb,.inl ⟨b',hv,h⟩⟩
   ·rename_i l hv;exact⟨d,hd,hb,.inr ⟨l,hv⟩⟩
   ·cases h
 ·cases h
def I9{C:World->Prop}{o:Oper}(h:okP P V o (fg ops n V o.guard)=true):se P n ops C o (goP P V o (fg ops n V o.guard)) V:=by
 let run:∀r,c8 P (execOp (ev V) o)=r->Y4 r=true->∀w,Yields P V o (Rr r) w:=by
  intro r c a w;cases r with
  |none=>cases a
  |some x=>
   cases x<;>simp only[Y4] at a<;>first|contradiction|exact dB P _ _ c w
 cases hg:o.guard with
 |none=>
  rw[hg] at h;simp only[fg,okP] at h;exact .inl ⟨hg,λw _=>run _ Z h w⟩
 |some g=>
  let⟨j,b⟩:=g;rw[hg] at h;cases hgp:fg ops n V (some (j,b)) with
  |none=>rw[hgp] at h;cases h
  |some x=>
   rw[hgp] at h;cases x with
   |true=>
    simp only[okP] at h;exact .inr (.inl ⟨j,b,hg,iq hgp,λw _=>run _ Z h w⟩)
   |false=>exact .inr (.inr ⟨j,b,hg,AN hgp,rfl⟩)
def Hv{o:Oper}{v:Value}(c:cV n o.dst=true)(a:se P n ops (λ_=>True) o v V)(h:aZ P n ops rest N (put V o.dst v) w):aZ P n ops (o::rest) N V w:=by
 rcases a with⟨hg,hy⟩|⟨j,b,hg,a,hy⟩|⟨j,b,hg,a,rfl⟩
 ·exact bh v hg c (hy w trivial) h
 ·exact yt hg a (bh v Z c (hy w trivial) h)
 ·exact ID hg c a h
def sP(b a:List Oper)(d:b++a=rest)(c:iH P n ops b V=true)(h:aZ P n ops a N (mW P n ops b V) w):aZ P n ops rest N V w:=by
 subst d
 induction b generalizing V with
 |nil=>exact h
 |cons o b a=>
  simp only[iH,ach] at c;exact Hv c.1.1 (I9 c.1.2) (a c.2 h)
def sp(k:Nat)(a:iH P n ops (rest.take k) V=true)(h:aZ P n ops (rest.drop k) N (mW P n ops (rest.take k) V) w):aZ P n ops rest N V w:=
 sP _ _ (ads k rest) a h
def Jg(ops:Array Oper)(is:gB):List Oper:=is.map λi=>ops.getD i default
def rU(is:gB)(listed:Array Bool):Array Bool:=is.foldl (λl i=>l.setIfInBounds i true) listed
def wP{E:gB}{L:en}{s:mv}{listed:Array Bool}(a:gB)(d:(a.all λi=>Nat.blt i ops.size)=true)(c:iH P n ops (Jg ops a) V=true)
 (h:fO P n ops E L N (ao s) (rU a listed) (mW P n ops (Jg ops a) V) w):fO P n ops E L N (ao ((true,a)::s)) listed V w:=by
 show fO P n ops E L N (a.map (λi=>(true,i))++ao s) listed V w
 induction a generalizing V listed with
 |nil=>exact h
 |cons i a b=>
  simp only[aeW,ach] at d;simp only[Jg,acC,iH,ach] at c;let a:i<ops.size:=by simp_all
  exact Wm
def p1{a:Oper}(b:iH P n ops [a] V=true)(h:aZ P n ops rest N (mW P n ops [a] V) w):aZ P n ops (a::rest) N V w:=sP [a] rest Z b h
def p2{b a:Oper}(c:iH P n ops [b,a] V=true)(h:aZ P n ops rest N (mW P n ops [b,a] V) w):aZ P n ops (b::a::rest) N V w:=sP [b,a] rest Z c h
def p3{c b a:Oper}(d:iH P n ops [c,b,a] V=true)(h:aZ P n ops rest N (mW P n ops [c,b,a] V) w):aZ P n ops (c::b::a::rest) N V w:=sP [c,b,a] rest Z d h
def bf{a:Oper}(h:aZ P n ops rest N (mW P n ops [a] V) w)(b:iH P n ops [a] V=true:=by kernel_rfl):aZ P n ops (a::rest) N V w:=sP [a] rest Z b h
def cG{b a:Oper}(h:aZ P n ops rest N (mW P n ops [b,a] V) w)(c:iH P n ops [b,a] V=true:=by kernel_rfl):aZ P n ops (b::a::rest) N V w:=sP [b,a] rest Z c h
def gw{c b a:Oper}(h:aZ P n ops rest N (mW P n ops [c,b,a] V) w)(d:iH P n ops [c,b,a] V=true:=by kernel_rfl):aZ P n ops (c::b::a::rest) N V w:=sP [c,b,a] rest Z d h
def je{d c b a:Oper}(h:aZ P n ops rest N (mW P n ops [d,c,b,a] V) w)(e:iH P n ops [d,c,b,a] V=true:=by kernel_rfl):aZ P n ops (d::c::b::a::rest) N V w:=sP [d,c,b,a] rest Z e h
def xN{e d c b a:Oper}(h:aZ P n ops rest N (mW P n ops [e,d,c,b,a] V) w)(f:iH P n ops [e,d,c,b,a] V=true:=by kernel_rfl):aZ P n ops (e::d::c::b::a::rest) N V w:=sP [e,d,c,b,a] rest Z f h
def pu6{f e d c b a:Oper}(h:aZ P n ops rest N (mW P n ops [f,e,d,c,b,a] V) w)(g:iH P n ops [f,e,d,c,b,a] V=true:=by kernel_rfl):aZ P n ops (f::e::d::c::b::a::rest) N V w:=sP [f,e,d,c,b,a] rest Z g h
def pu7{g f e d c b a:Oper}(h:aZ P n ops rest N (mW P n ops [g,f,e,d,c,b,a] V) w)(i:iH P n ops [g,f,e,d,c,b,a] V=true:=by kernel_rfl):aZ P n ops (g::f::e::d::c::b::a::rest) N V w:=sP [g,f,e,d,c,b,a] rest Z i h
def Sw{i g f e d c b a:Oper}(h:aZ P n ops rest N (mW P n ops [i,g,f,e,d,c,b,a] V) w)(j:iH P n ops [i,g,f,e,d,c,b,a] V=true:=by kernel_rfl):aZ P n ops (i::g::f::e::d::c::b::a::rest) N V w:=sP [i,g,f,e,d,c,b,a] rest Z j h
def pu9{j i g f e d c b a:Oper}(h:aZ P n ops rest N (mW P n ops [j,i,g,f,e,d,c,b,a] V) w)(k:iH P n ops [j,i,g,f,e,d,c,b,a] V=true:=by kernel_rfl):aZ P n ops (j::i::g::f::e::d::c::b::a::rest) N V w:=sP [j,i,g,f,e,d,c,b,a] rest Z k h
def aaQ{l k j i g f e d c b a:Oper}(h:aZ P n ops rest N (mW P n ops [l,k,j,i,g,f,e,d,c,b,a] V) w)(m:iH P n ops [l,k,j,i,g,f,e,d,c,b,a] V=true:=by kernel_rfl):aZ P n ops (l::k::j::i::g::f::e::d::c::b::a::rest) N V w:=sP [l,k,j,i,g,f,e,d,c,b,a] rest Z m h
def aan{p o m l k j i g f e d c b a:Oper}(h:aZ P n ops rest N (mW P n ops [p,o,m,l,k,j,i,g,f,e,d,c,b,a] V) w)(q:iH P n ops [p,o,m,l,k,j,i,g,f,e,d,c,b,a] V=true:=by kernel_rfl):aZ P n ops (p::o::m::l::k::j::i::g::f::e::d::c::b::a::rest) N V w:=sP [p,o,m,l,k,j,i,g,f,e,d,c,b,a] rest Z q h
def aak{q p o m l k j i g f e d c b a:Oper}(h:aZ P n ops rest N (mW P n ops [q,p,o,m,l,k,j,i,g,f,e,d,c,b,a] V) w)(r:iH P n ops [q,p,o,m,l,k,j,i,g,f,e,d,c,b,a] V=true:=by kernel_rfl):aZ P n ops (q::p::o::m::l::k::j::i::g::f::e::d::c::b::a::rest) N V w:=sP [q,p,o,m,l,k,j,i,g,f,e,d,c,b,a] rest Z r h
def wU{E:gB}{L:en}{s:mv}{listed:Array Bool}(a:gB)(h:fO P n ops E L N (ao s) (rU a listed) (mW P n ops (Jg ops a) V) w)(c:(a.all λi=>Nat.blt i ops.size)=true:=by rfl)(b:iH P n ops (Jg ops a) V=true:=by kernel_rfl):fO P n ops E L N (ao ((true,a)::s)) listed V w:=wP a c b h
end
end Go.E
set_option linter.all false
namespace Go.E
def ca(x:Int):fa:=[.int .i64 x]
section
variable{P:Program}{n:Nat}{V:Env}{W w:World}{O:cj}{ops:Array Oper}{rest:List Oper}{N:Env->World->Prop}{o:Oper}
def bl{α:Type}(enc:α->fa)(sz:Nat)(O:cj)(a:cf)(n cap:Nat)(xs:List α):Prop:=
 xs.length=n/\(∀x,(enc x).length=sz)/\Bt O sz a n cap (xs.flatMap enc)
def aF{α:Type}(enc:α->fa)(E sz:Nat)(a:cf)(n cap:Nat)(xs:List α)(c:af):Prop:=
 xs.length=n/\(∀x,(enc x).length=sz)/\nN E sz a n cap (xs.flatMap enc) c
def nz{α:Type}{enc:α->fa}{sz:Nat}(he:∀x,(enc x).length=sz):∀(xs:List α) (i:Nat) (x:α),xs[i]?=some x->((xs.flatMap enc).drop (i*sz)).take sz=enc x
 |[],i,x,h=>sZ
 |y::a,0,x,h=>by
  simp_all
 |y::a,i+1,x,h=>by
  simp only[ac8];rw[show(i+1)*sz=(enc y).length+i*sz by grind,aeX];rw[aer (by omega)];simp only[acN,ael];exact nz he a i x dV
theorem eO{α:Type}{enc:α->fa}{sz:Nat}(he:∀x,(enc x).length=sz)(xs:List α):(xs.flatMap enc).length=xs.length*sz:=by
 induction xs with
 |nil=>simp
 |cons x xs a=>simp[he,a,ac1];omega
def pW{α:Type}{enc:α->fa}{sz:Nat}(he:∀x,(enc x).length=sz):∀(xs:List α) (i:Nat),(xs.flatMap enc).drop (i*sz)=(xs.drop i).flatMap enc
 |[],i=>by simp
 |y::a,0=>by simp
 |y::a,i+1=>by
  simp only[ac8,List.drop_succ_cons];rw[show(i+1)*sz=(enc y).length+i*sz by grind,aeX,aer (by omega)];simp only[acN,ael];exact pW he a i
def iZ{α:Type}{enc:α->fa}{sz:Nat}(he:∀x,(enc x).length=sz):∀(xs:List α) (i:Nat),(xs.flatMap enc).take (i*sz)=(xs.take i).flatMap enc
 |[],i=>by simp
 |y::a,0=>by simp
 |y::a,i+1=>by
  simp only[ac8,List.take_succ_cons];rw[show(i+1)*sz=(enc y).length+i*sz by grind,List.take_append,acj (by omega)];simp only[ael];rw[iZ he a i]
def bl.ag{α:Type}{enc:α->fa}{sz:Nat}{cs':cj}{a:cf}{n cap:Nat}{xs:List α}(hp:bl enc sz O a n cap xs)(h:∀p∈O.flatten,p∈cs'.flatten):bl enc sz cs' a n cap xs:=
 ⟨hp.1,hp.2.1,hp.2.2.ag h⟩
def bl.len{α:Type}{enc:α->fa}{sz:Nat}{a:cf}{n cap:Nat}{xs:List α}(hp:bl enc sz O a n cap xs):xs.length=n:=hp.1
def bl.le{α:Type}{enc:α->fa}{sz:Nat}{a:cf}{n cap:Nat}{xs:List α}(hp:bl enc sz O a n cap xs):n<=cap/\cap<=9223372036854775807:=by
 let:=hp.2.2.2.2.1;simp only[maxLen] at this;exact⟨hp.2.2.2.1,by omega⟩
def bl.nil{α:Type}{enc:α->fa}{sz:Nat}(he:∀x,(enc x).length=sz)(O:cj):bl enc sz O none 0 0 []:=⟨rfl,he,Bt.nil O sz none 0 (by omega)⟩
def bl.part{α:Type}{enc:α->fa}{sz:Nat}{a:cf}{len cap lo hi:Nat}{xs:List α}(h:bl enc sz O a len cap xs)(h1:lo<=hi)(b:hi<=len):
 bl enc sz O (bZ a cap lo sz) (hi-lo) (cap-lo) ((xs.drop lo).take (hi-lo)):=by
 refine⟨by simp[h.1];omega,h.2.1,?_⟩;rw[<-iZ h.2.1,<-pW h.2.1];exact h.2.2.part h1 b
def aF.len{α:Type}{enc:α->fa}{E sz:Nat}{a:cf}{n cap:Nat}{xs:List α}{c:af}(hp:aF enc E sz a n cap xs c):xs.length=n:=hp.1
def aF.le{α:Type}{enc:α->fa}{E sz:Nat}{a:cf}{n cap:Nat}{xs:List α}{c:af}(hp:aF enc E sz a n cap xs c):n<=cap/\cap<=9223372036854775807:=by
 let:=hp.2.2.Hc;grind[maxLen]
def aF.nil{α:Type}{enc:α->fa}{E sz:Nat}(he:∀x,(enc x).length=sz):aF enc E sz none 0 0 [] []:=⟨rfl,he,nN.nil E sz⟩
def aF.rd{α:Type}{enc:α->fa}{E sz:Nat}{a:cf}{n cap:Nat}{xs:List α}{c:af}(hp:aF enc E sz a n cap xs c)(b:∀p∈c,p∈O.flatten):bl enc sz O a n cap xs:=
 ⟨hp.1,hp.2.1,hp.2.2.rd b⟩
def aF.dt{α:Type}{enc:α->fa}{E sz:Nat}{a:cf}{n cap:Nat}{xs:List α}{c:af}(hp:aF enc E sz a n cap xs c)(i:Nat)(hi:O[i]?=some c):bl enc sz O a n cap xs:=
 hp.rd λ_ h=>CY i hi h
def aF.part{α:Type}{enc:α->fa}{E sz:Nat}{a:cf}{len cap lo hi:Nat}{xs:List α}{c:af}(h:aF enc E sz a len cap xs c)(h1:lo<=hi)(b:hi<=len):
 aF enc E sz (bZ a cap lo sz) (hi-lo) (cap-lo) ((xs.drop lo).take (hi-lo)) c:=by
 refine⟨by simp[h.1];omega,h.2.1,?_⟩;rw[<-iZ h.2.1,<-pW h.2.1];exact h.2.2.part h1 b
def PI{c:af}(i:Nat)(hi:O[i]?=some c):∀p∈[c].flatten,p∈O.flatten:=λp hp=>CY i hi dV
def na.up{c:af}{b off:Nat}{l:fa}(h:na [c] b off l)(i:Nat)(hi:O[i]?=some c):na O b off l:=h.ag (PI i hi)
def bl.up{α:Type}{enc:α->fa}{sz:Nat}{c:af}{a:cf}{n cap:Nat}{xs:List α}(h:bl enc sz [c] a n cap xs)(i:Nat)(hi:O[i]?=some c):bl enc sz O a n cap xs:=h.ag (PI i hi)
def aF.dO{α:Type}{enc:α->fa}{sz b:Nat}{c:nO}{E:TypeId}{xs:List α}(he:∀x,(enc x).length=sz)(k:Nat)(hc:c.toList=xs.flatMap enc)(d:xs.length=k)(a:c.size=k*sz)(a:k<=16777216):
 aF enc E sz (some ⟨b,0,none⟩) k k xs (aW b c E):=
 ⟨d,he,by rw[eO he,d],.inr ⟨b,0,c,rfl,rfl,acS _,by simp only[maxLen];omega,by omega,by grind[List.take_of_length_le]⟩⟩
def vi{op:BinOp}{t u:TypeId}{x y:Operand}{a b v:Value}(d:o.op=.binOp op t x y u)(hx:ev V x=a)(hy:ev V y=b)
 (c:∀x y,((do eqGuard op t x y a b;binOp op t a b):Sem Value).run P w=.ok v w):Yields P V o v w:=by
 let h:=c x y;unfold Yields execOp;rw[d];simp only[hx,hy];simp only[Sem.run_bind] at h⊢;cases hg:(eqGuard op t x y a b).run P w with
 |ok u c=>
  rw[hg] at h;simp only[Result.andThen_ok] at h⊢;rw[h];simp
 |halt e c=>rw[hg] at h;simp at h
def aU(a b:Int){t u:TypeId}{x y:Operand}(h:aZ P n ops rest N (put V o.dst (.int .i64 (a+b))) w)(e:-9223372036854775808<=a+b/\a+b<=9223372036854775807:=by omega)
 (d:o.op=.binOp .add t x y u:=by rfl) (hg:o.guard=none:=by rfl) (c:cV n o.dst=true:=by rfl) (hx:ev V x=.int .i64 a:=by kernel_rfl) (hy:ev V y=.int .i64 b:=by kernel_rfl):
 aZ P n ops (o::rest) N V w:=bh _ hg c (PB d hx hy e) h
def dP(a b:Int){t u:TypeId}{x y:Operand}(h:aZ P n ops rest N (put V o.dst (.int .i64 (a-b))) w)(e:-9223372036854775808<=a-b/\a-b<=9223372036854775807:=by omega)
 (d:o.op=.binOp .sub t x y u:=by rfl) (hg:o.guard=none:=by rfl) (c:cV n o.dst=true:=by rfl) (hx:ev V x=.int .i64 a:=by kernel_rfl) (hy:ev V y=.int .i64 b:=by kernel_rfl):
 aZ P n ops (o::rest) N V w:=bh _ hg c (Ps d hx hy e) h
def ei(a b:Int){t u:TypeId}{x y:Operand}(h:aZ P n ops rest N (put V o.dst (.int .i64 (a*b))) w)(e:-9223372036854775808<=a*b/\a*b<=9223372036854775807:=by omega)
 (d:o.op=.binOp .mul t x y u:=by rfl) (hg:o.guard=none:=by rfl) (c:cV n o.dst=true:=by rfl) (hx:ev V x=.int .i64 a:=by kernel_rfl) (hy:ev V y=.int .i64 b:=by kernel_rfl):
 aZ P n ops (o::rest) N V w:=bh _ hg c (Pq d hx hy e) h
def Dw(a b:Int){t u:TypeId}{x y:Operand}(h:aZ P n ops rest N (put V o.dst (.int .i64 (a.tmod b))) w)(e:b≠0:=by omega)
 (d:o.op=.binOp .rem t x y u:=by rfl) (hg:o.guard=none:=by rfl) (c:cV n o.dst=true:=by rfl) (hx:ev V x=.int .i64 a:=by kernel_rfl) (hy:ev V y=.int .i64 b:=by kernel_rfl):
 aZ P n ops (o::rest) N V w:=bh _ hg c (UR d hx hy e) h
def mE(a b:Int){t u:TypeId}{x y:Operand}(h:aZ P n ops rest N (put V o.dst (.int .i64 (a.tdiv b))) w)(f:0<b:=by omega)(e:-9223372036854775808<=a/\a<=9223372036854775807:=by omega)
 (d:o.op=.binOp .quo t x y u:=by rfl) (hg:o.guard=none:=by rfl) (c:cV n o.dst=true:=by rfl) (hx:ev V x=.int .i64 a:=by kernel_rfl) (hy:ev V y=.int .i64 b:=by kernel_rfl):
 aZ P n ops (o::rest) N V w:=bh _ hg c (Vh d hx hy f e) h
def sLA(m:X W w O)(i off:Nat)(vs:fa){t:TypeId}{x:Operand}{b k:Nat}{c:nO}{E:TypeId}{f:Nat×Nat}(g:(isAgg t).run P w=.ok true w)(e:(sizeOf t).run P w=.ok k w)(h:aZ P n ops rest N (put V o.dst (.agg vs.toArray)) w)
 (l:o.op=.load t x:=by rfl) (hg:o.guard=none:=by rfl) (j:cV n o.dst=true:=by rfl) (hi:O[i]?=some [(b,.cells c E f)]:=by rfl) (hx:ev V x=.pointer (some ⟨b,off,none⟩):=by kernel_rfl) (d:vs.length=k:=by kernel_rfl)
 (a:(c.toList.drop off).take vs.length=vs:=by kernel_rfl):
 aZ P n ops (o::rest) N V w:=bh _ hg j (xr l g e hx d m (na.dO i hi a)) h
def sLp(f:X W w O){b off:Nat}{l:fa}(hp:na O b off l)(k:Nat)(v:Value){t:TypeId}{x:Operand}(c:(isAgg t).run P w=.ok false w)(h:aZ P n ops rest N (put V o.dst v) w)
 (e:o.op=.load t x:=by rfl) (hg:o.guard=none:=by rfl) (d:cV n o.dst=true:=by rfl) (hx:ev V x=.pointer (some ⟨b,off+k,none⟩):=by kernel_rfl) (a:l[k]?=some v:=by kernel_rfl):
 aZ P n ops (o::rest) N V w:=bh v hg d (wa e c hx (hp.cell f a)) h
def aat(m:X W w O){b off:Nat}{l:fa}(hp:na O b off l)(i:Nat)(vs:fa){t:TypeId}{x:Operand}{k:Nat}(f:(isAgg t).run P w=.ok true w)(e:(sizeOf t).run P w=.ok k w)(h:aZ P n ops rest N (put V o.dst (.agg vs.toArray)) w)
 (j:o.op=.load t x:=by rfl) (hg:o.guard=none:=by rfl) (g:cV n o.dst=true:=by rfl) (hx:ev V x=.pointer (some ⟨b,off+i,none⟩):=by kernel_rfl) (d:vs.length=k:=by kernel_rfl) (a:Nat.ble (i+vs.length) l.length=true:=by kernel_rfl)
 (c:(l.drop i).take vs.length=vs:=by kernel_rfl):
 aZ P n ops (o::rest) N V w:=bh _ hg g (xr j f e hx d m (c▸hp.sub i vs.length (adl a))) h
def sT(p:X W w O)(i off:Nat)(v:Value)(vs:fa)(j:nO){t:TypeId}{x y:Operand}{b k:Nat}{c:nO}{E:TypeId}(g:∀w,(sizeOf t).run P w=.ok k w)
 (h:∀a,X W a (O.set i (aW b j E))->aZ P n ops rest N V a)
 (m:o.op=.store t x y:=by rfl) (hg:o.guard=none:=by rfl) (l:o.dst=none:=by rfl) (hi:O[i]?=some (aW b c E):=by rfl)
 (hx:ev V x=.pointer (some ⟨b,off,none⟩):=by kernel_rfl) (hy:ev V y=v:=by kernel_rfl) (f:v.cells.toList=vs:=by kernel_rfl) (a:vs.length=k:=by kernel_rfl)
 (h1:vs.all (·.oneCell')=true:=by kernel_rfl) (d:Nat.ble (off+vs.length) c.size=true:=by kernel_rfl) (e:wr c off vs=j:=by kernel_rfl):aZ P n ops (o::rest) N V w:=
 oM m hg l g hx hy f a (λu a=>Kf) p i hi (adl d) j e h
def sT2(j:X W w O)(i off:Nat)(v:Value){t:TypeId}{x y:Operand}{b k:Nat}{c:nO}{E:TypeId}(e:∀w,(sizeOf t).run P w=.ok k w)
 (h:∀a,X W a (O.set i (aW b (wr c off v.cells.toList) E))->aZ P n ops rest N V a)
 (g:o.op=.store t x y:=by rfl) (hg:o.guard=none:=by rfl) (f:o.dst=none:=by rfl) (hi:O[i]?=some (aW b c E):=by rfl)
 (hx:ev V x=.pointer (some ⟨b,off,none⟩):=by kernel_rfl) (hy:ev V y=v:=by kernel_rfl) (a:v.cells.toList.length=k:=by kernel_rfl)
 (h1:v.cells.toList.all (·.oneCell')=true:=by kernel_rfl) (d:Nat.ble (off+v.cells.toList.length) c.size=true:=by kernel_rfl):aZ P n ops (o::rest) N V w:=
 oM g hg f e hx hy Z a (λu a=>Kf) j i hi (adl d) _ Z h
def aI(d:X W w O){t:TypeId}{z:Value}(hz:∀w,(zeroValue t).run P w=.ok z w)(h:∀b a,X W a (aW b z.cells t::O)->aZ P n ops rest N (put V o.dst (.pointer (some ⟨b,0,none⟩))) a)
 (c:o.op=.alloc t:=by rfl) (hg:o.guard=none:=by rfl) (a:cV n o.dst=true:=by rfl):aZ P n ops (o::rest) N V w:=Lv c hg a hz d h
def NO(e:X W w O)(v:Value)(c:nO){t:TypeId}{x:Operand}(h:∀b a,X W a (aW b c t::O)->aZ P n ops rest N (put V o.dst (.pointer (some ⟨b,0,none⟩))) a)
 (d:o.op=.box t x:=by rfl) (hg:o.guard=none:=by rfl) (a:cV n o.dst=true:=by rfl) (hx:ev V x=v:=by kernel_rfl) (hc:v.cells=c:=by kernel_rfl):aZ P n ops (o::rest) N V w:=Tb c d hg a hx hc e h
def sBS(j:X W w O)(c:nO){t E:TypeId}{len sz:Nat}{parts:Array (Nat×Operand)}{z:Value}
 (g:∀w,(underlying t).run P w=.ok (.slice E) w) (d:∀w,(sizeOf E).run P w=.ok sz w) (hz:∀w,(zeroValue E).run P w=.ok z w)
 (h:∀b a,X W a (aW b c E::O)->aZ P n ops rest N (put V o.dst (.slice (some ⟨b,0,none⟩) len len)) a)
 (f:o.op=.buildSlice t len parts:=by rfl) (hg:o.guard=none:=by rfl) (e:cV n o.dst=true:=by rfl) (a:Nat.ble (len*sz) (2^24)=true:=by kernel_rfl)
 (hf:Instr.fill (λi=>some (i*sz,sz)) ((Array.range (len*sz)).map ((if len*sz=0 then #[] else z.cells)[·%(if len*sz=0 then #[] else z.cells).size]!)) (parts.map λ(i,x)=>(i,ev V x)).toList=some c:=by kernel_rfl):
 aZ P n ops (o::rest) N V w:=yi c f hg e g d hz a hf j h
def sF{f:FuncId}{xs:Array Operand}{ats:Array TypeId}(args:nO)(hc:∀args w,(callFunc f args).run P w=.ok (.enter f args) w)(h:Calls P f args w λe a=>∃v,e=.returned v/\aZ P n ops rest N (put V o.dst v) a)
 (c:o.op=.call {callee:=.value (.func f),args:=xs,argTypes:=ats}:=by rfl) (hg:o.guard=none:=by rfl) (b:cV n o.dst=true:=by rfl) (a:xs.map (ev V)=args:=by kernel_rfl):
 aZ P n ops (o::rest) N V w:=dv c hg b hc a h
def sC{f:FuncId}{t:Tmp}{xs:Array Operand}{ats:Array TypeId}(args cap:nO)(hc:∀args w,(callFunc f args).run P w=.ok (.enter f args) w)(h:Calls P f args w λe a=>∃v,e=.returned v/\aZ P n ops rest N (put V o.dst v) a)
 (c:o.op=.call {callee:=.value (.tmp t),args:=xs,argTypes:=ats}:=by rfl) (hg:o.guard=none:=by rfl) (b:cV n o.dst=true:=by rfl) (hf:V t=.func (.func f) #[] cap:=by kernel_rfl) (a:xs.map (ev V)++cap=args:=by kernel_rfl):
 aZ P n ops (o::rest) N V w:=ES c hg b hf hc a h
def aaJ{α:Type}{enc:α->fa}{sz:Nat}{a:cf}{len cap:Nat}{xs:List α}(g:bl enc sz O a len cap xs)(i:Int){t E:TypeId}{x y:Operand}
 (j:∀w,(underlying t).run P w=.ok (.slice E) w) (e:∀w,(sizeOf E).run P w=.ok sz w)
 (h:∀x b off,xs[i.toNat]?=some x->na O b off (enc x)->aZ P n ops rest N (put V o.dst (.pointer (some ⟨b,off,none⟩))) w) (h0:0<=i:=by omega) (h1:i<len:=by first|omega|decide)
 (f:o.op=.indexAddr t x y:=by rfl) (hg:o.guard=none:=by rfl) (d:cV n o.dst=true:=by rfl) (hx:ev V x=.slice a len cap:=by kernel_rfl) (hy:ev V y=.int .i64 i:=by kernel_rfl):aZ P n ops (o::rest) N V w:=by
 let c:i.toNat<xs.length:=by rw[g.1];omega
 refine Rg f hg d j e hx hy g.2.2 h0 h1 λb off hp=>h xs[i.toNat] b off (by simp[c]) ?_;rw[nz g.2.1 xs i.toNat xs[i.toNat] (by simp[c])] at hp;exact hp
def yU{α:Type}{enc:α->fa}{sz:Nat}(he:∀x,(enc x).length=sz){k:Nat}{vs:fa}(c:k+vs.length<=sz):∀(xs:List α) (i:Nat) (x x':α),xs[i]?=some x->Ai (enc x) k vs=enc x'->
 Ai (xs.flatMap enc) (i*sz+k) vs=(xs.set i x').flatMap enc
 |[],i,x,x',h,_=>sZ
 |y::a,0,x,x',h,hw=>by
  grind[Ai]
 |y::a,i+1,x,x',h,hw=>by
  let b:=yU he c a i x x' dV hw;simp only[ac8,List.set_cons_succ,<-b,Ai];let hy:=he y;rw[show(i+1)*sz+k=(enc y).length+(i*sz+k) by rw[he,ac1];omega,List.take_append,aeX];rw[acj (by omega),aer (by omega)];simp only[ael,acN,acx];rw[show(enc y).length+(i*sz+k)+vs.length-(enc y).length=i*sz+k+vs.length by omega]
def fj{α:Type}{enc:α->fa}{E sz:Nat}{a:cf}{m cap:Nat}{xs:List α}{c:af}{b off:Nat}(C:X W w O)(p:aF enc E sz a m cap xs c)(f:a=some ⟨b,off,none⟩)(j i k:Nat)(x x':α)(hx:xs[i]?=some x)(v:Value)(vs:fa)
 {t:TypeId} {d e:Operand} {q:Nat} (r:∀w,(sizeOf t).run P w=.ok q w)
 (h:∀g l,aF enc E sz a m cap (xs.set i x') l->X W g (O.set j l)->aZ P n ops rest N V g)
 (A:o.op=.store t d e:=by rfl) (hg:o.guard=none:=by rfl) (z:o.dst=none:=by rfl) (B:O[j]?=some c:=by rfl)
 (hp:ev V d=.pointer (some ⟨b,off+i*sz+k,none⟩):=by kernel_rfl) (y:ev V e=v:=by kernel_rfl) (e:v.cells.toList=vs:=by kernel_rfl) (s:vs.length=q:=by kernel_rfl) (h1:vs.all (·.oneCell')=true:=by kernel_rfl)
 (hw:Ai (enc x) k vs=enc x':=by kernel_rfl) (d:Nat.ble (k+vs.length) sz=true:=by kernel_rfl):aZ P n ops (o::rest) N V w:=by
 subst f;let f:=adl d;let d:i<xs.length:=(aci.1 hx).1;let d:(i+1)*sz<=m*sz:=acA _ (by let:=p.1;omega);rw[ac1,adi] at d;refine Hr (i:=i*sz+k) A hg z r p.2.2 (by rw[hp,adL]) y e s (λu d=>acH.1 h1 u d) C j B (by omega) λg l e d=>h g l ⟨by simp[p.1],p.2.1,?_⟩ d;rw[<-yU p.2.1 f xs i x x' hx hw];exact e
def Xh{α:Type}{enc:α->List Value}{E sz:Nat}{a:Option Addr}{m cap lo:Nat}{xs:List α}{c:af}(hS:X W w O)(hO:aF enc E sz a m cap xs c)(j:Nat)(zx:α){z:Value}(hlo:lo<=m)
 {t:TypeId} {args:Array Operand} {ats:Array TypeId} {x:Operand} (hu:∀w,(underlying t).run P w=.ok (.slice E) w) (hz:∀w,(zeroValue E).run P w=.ok z w) (h1:z.cells.all (·.oneCell')=true)
 (h:∀w' c',aF enc E sz a m cap (xs.take lo++List.replicate (m-lo) zx) c'->X W w' (O.set j c')->aZ P n ops rest N V w')
 (ho:o.op=.call {callee:=.builtin .clear,args:=args,argTypes:=ats}:=by rfl) (hargs:args=#[x]:=by rfl) (hats:ats=#[t]:=by rfl) (hg:o.guard=none:=by rfl) (hd:o.dst=none:=by rfl) (hj:O[j]?=some c:=by rfl)
 (hx:ev V x=.slice (bZ a cap lo sz) (m-lo) (cap-lo):=by kernel_rfl) (hzx:z.cells.toList=enc zx:=by kernel_rfl):aZ P n ops (o::rest) N V w:=by
 subst hargs;subst hats
 have hnxt:∀w' c',aF enc E sz a m cap (xs.take lo++List.replicate (m-lo) zx) c'->X W w' (O.set j c')->(execOp (ev V) o).run P w=.ok (.value (.tuple #[])) w'->aZ P n ops (o::rest) N V w:=λw' c' hO' hS' hr=>
  jt (v:=.tuple #[]) (w':=w') hg (by rw[hd];rfl) hr (by rw[hd];exact h w' c' hO' hS')
 by_cases h0:m-lo=0
 ·refine hnxt w c ?_ (hS.set j hj (λh=>h)) ?_
  ·rw[h0];simp only[aeH,acR];rw[acj (by rw[hO.1];omega)];exact hO
  ·unfold execOp;rw[ho];simp only[resolve,invoke,builtin,aeB,acC,adA,hx,h0];cases bZ a cap lo sz<;>simp[Builtin.clear_,hu]
 ·obtain⟨hl,he,hlen,hr⟩:=hO;rcases hr with⟨_,rfl,_⟩|⟨b,off,cur,rfl,rfl,hn,hcm,hf,ht⟩
  ·omega
  ·have hne:¬cap=lo:=by omega
   have hms:m*sz<=cap*sz:=acA _ hn;have hls:lo*sz<=m*sz:=acA _ hlo;have hzl:z.cells.size=sz:=by rw[<-he zx,<-hzx];simp
   have hsub:(m-lo)*sz=m*sz-lo*sz:=Nat.sub_mul ..
   have hZ:∀k,(Builtin.zeroCells z.cells k).toList=(List.replicate k zx).flatMap enc:=by
    intro k;apply acQ;intro i;by_cases hi:i<k*sz
    ·have h3:(Builtin.zeroCells z.cells k).toList[i]?=some (z.cells[i%z.cells.size]!):=by simp[Builtin.zeroCells,hzl,hi]
     rw[h3];have hszp:0<sz:=by rcases Nat.eq_zero_or_pos sz with h|h;(rw[h] at hi;omega);exact h
     have hdm:=Nat.div_add_mod i sz;have hdl:i/sz<k:=by rw[Nat.div_lt_iff_lt_mul hszp];exact hi
     have h4:=nz he (List.replicate k zx) (i/sz) zx (by simp[hdl]);have hmod:i%sz<sz:=aeC _ hszp
     have h5:((List.replicate k zx).flatMap enc)[i]?=(enc zx)[i%sz]?:=by
      rw[<-h4,ac0,aca hmod,ad8];congr 1;rw[Nat.mul_comm] at hdm;omega
     rw[h5,<-hzx,hzl];simp[hzl,hmod]
    ·rw[acY (by simp[Builtin.zeroCells,hzl];omega),acY (by rw[eO he];simp;omega)]
   have hZl:(Builtin.zeroCells z.cells (m-lo)).toList.length=(m-lo)*sz:=by simp[Builtin.zeroCells,hzl]
   have hall:∀u∈(Builtin.zeroCells z.cells (m-lo)).toList,u.oneCell'=true:=by
    intro u hu';rw[hZ] at hu';obtain⟨y,hy,hyu⟩:=aeD.1 hu';have:=acK hy;subst this;rw[<-hzx] at hyu;have h1':=h1;rw[Array.all_eq_true'] at h1';exact h1' u (by simpa using hyu)
   have hst:=run_storeCells_at P b (off+lo*sz) E (Builtin.zeroCells z.cells (m-lo)).toList 0 cur w (hS.at j hj) (by simp only[adB,hZl];omega) hall;simp only[adB] at hst;refine hnxt (w.setRow b (wr cur (off+lo*sz) (Builtin.zeroCells z.cells (m-lo)).toList)) [(b,.cells (wr cur (off+lo*sz) (Builtin.zeroCells z.cells (m-lo)).toList) E (0,0))] ?_ (hS.rowAt j hj _) ?_
   ·refine⟨by simp[hl];omega,he,?_⟩;refine⟨by rw[eO he];congr 1;simp[hl];omega,.inr ⟨b,off,_,rfl,rfl,hn,hcm,by rw[xy (by rw[hZl];omega)];exact hf,?_⟩⟩;rw[Dd (by omega) (by rw[hZl];omega),ht,ad5,<-iZ he,hZ];simp only[Ai];rw[aer (by rw[hlen,eO he];simp;omega)];simp
   ·obtain⟨k',hk'⟩:∃k',m-lo=k'+1:=⟨m-lo-1,by omega⟩;unfold execOp;rw[ho];simp only[resolve,invoke,builtin,aeB,acC,adA,hx,bZ,ab9 hne,ad1,fD];rw[hk'] at hst⊢;simp[Builtin.clear_,hu,hz,hst,wr]
def eM:Option Int->Nat->Nat->Prop
 |none,d,l=>l=d
 |some i,_,l=>0<=i/\i.toNat=l
def yR(m e:Option Int)(l h:Nat){t E:TypeId}{x:Operand}{lo hi mx:Option Operand}{a:cf}{len cap sz:Nat}(p:∀w,(underlying t).run P w=.ok (.slice E) w)
 (j:∀w,(sizeOf E).run P w=.ok sz w) (b:eM m 0 l) (d:eM e len h) (h1:l<=h) (n:h<=cap)
 (k:o.op=.slice t x lo hi mx:=by rfl) (c:mx=none:=by rfl) (hx:ev V x=.slice a len cap:=by kernel_rfl)
 (f:lo.map (ev V)=m.map (Value.int .i64 ·):=by kernel_rfl) (g:hi.map (ev V)=e.map (Value.int .i64 ·):=by kernel_rfl):Yields P V o (.slice (bZ a cap l sz) (h-l) (cap-l)) w:=by
 refine RV k c p j hx ?_ ?_ h1 n
 ·cases m with
  |none=>exact .inl ⟨f,b⟩
  |some i=>exact .inr ⟨.i64,i,f,b.2,b.1⟩
 ·cases e with
  |none=>exact .inl ⟨g,d⟩
  |some i=>exact .inr ⟨.i64,i,g,d.2,d.1⟩
def Pk(k c:Option Int)(l h:Nat){t E:TypeId}{x:Operand}{lo hi mx:Option Operand}{a:cf}{len cap sz:Nat}(r:∀w,(underlying t).run P w=.ok (.slice E) w)
 (j:∀w,(sizeOf E).run P w=.ok sz w) (i:eM k 0 l) (g:eM c len h) (h1:l<=h) (p:h<=cap) (q:aZ P n ops rest N (put V o.dst (.slice (bZ a cap l sz) (h-l) (cap-l))) w)
 (m:o.op=.slice t x lo hi mx:=by rfl) (b:mx=none:=by rfl) (hg:o.guard=none:=by rfl) (f:cV n o.dst=true:=by rfl) (hx:ev V x=.slice a len cap:=by kernel_rfl)
 (e:lo.map (ev V)=k.map (Value.int .i64 ·):=by kernel_rfl) (d:hi.map (ev V)=c.map (Value.int .i64 ·):=by kernel_rfl):aZ P n ops (o::rest) N V w:=
 bh _ hg f (yR k c l h r j i g h1 p m b hx e d) q
def nJ(a:cf)(i:Int)(len sz b off:Nat):Prop:=∃q,a=some q/\q.add (i.toNat*sz)=⟨b,off,none⟩/\0<=i/\i<len
def bl.elem{α:Type}{enc:α->fa}{sz:Nat}{a:cf}{len cap:Nat}{xs:List α}(d:bl enc sz O a len cap xs)(i:Int)(h0:0<=i:=by omega)(h1:i<len:=by first|omega|decide):
 ∃x b off,xs[i.toNat]?=some x/\na O b off (enc x)/\nJ a i len sz b off:=by
 have f:i.toNat<xs.length:=by rw[d.1];omega
 obtain⟨c,e,c,hc,c,c⟩:=d;rcases c with c|⟨b,off,rfl,hp⟩
 ·omega
 ·have d:i.toNat+1<=len:=by omega
  have c:(i.toNat+1)*sz<=len*sz:=acA _ d;rw[ac1,adi] at c;refine⟨xs[i.toNat],b,off+i.toNat*sz,by simp[f],?_,⟨⟨b,off,none⟩,rfl,fD ..,h0,h1⟩⟩;have:=hp.sub (i.toNat*sz) sz (by omega);rw[nz e xs i.toNat xs[i.toNat] (by simp[f])] at this;exact this
def rf{t E:TypeId}{x y:Operand}{a:cf}{i:Int}{len cap sz b off:Nat}(f:o.op=.indexAddr t x y)(e:∀w,(underlying t).run P w=.ok (.slice E) w)(d:∀w,(sizeOf E).run P w=.ok sz w)
 (hx:ev V x=.slice a len cap) (hy:ev V y=.int .i64 i) (c:nJ a i len sz b off):Yields P V o (.pointer (some ⟨b,off,none⟩)) w:=by
 obtain⟨q,rfl,c,h0,h1⟩:=c;rw[<-c];exact wT f e d hx hy h0 h1
def dM{α:Type}{enc:α->fa}{t E:TypeId}{b:Array Operand}{ats:Array TypeId}{x y:Operand}{i:TypeInfo}{z:Value}{sz nb:Nat}{a p:cf}{m cap k c2:Nat}{xs d:List α}{c:af}
 (H:X W w O) (D:aF enc E sz a m cap xs c) (j:Nat) (F:bl enc sz O p k c2 d)
 (G:P.underlying t=some (.slice E)) (hi:P.info? E=some i) (h1:∀x,(enc x).all (·.oneCell')=true)
 (h:∀A e v s,aF enc E sz A (m+k) e (xs++d) v->X W s (O.set j v)->aZ P n ops rest N (put V o.dst (.slice A (m+k) e)) s)
 (C:o.op=.call {callee:=.builtin .append,args:=b,argTypes:=ats}:=by rfl) (q:b=#[x,y]:=by rfl) (f:ats=#[t,t]:=by rfl) (hg:o.guard=none:=by rfl) (B:cV n o.dst=true:=by rfl)
 (hz:i.zero=some z:=by rfl) (d:i.size=sz:=by rfl) (l:i.bytes=nb:=by rfl) (g:z.cells.size=sz:=by kernel_rfl) (r:O[j]?=some c:=by rfl)
 (hx:ev V x=.slice a m cap:=by kernel_rfl) (hy:ev V y=.slice p k c2:=by kernel_rfl)
 (p:(m+k)*nb<=140737488355328:=by omega) (b:m+k<=9223372036854775807:=by omega):aZ P n ops (o::rest) N V w:=by
 refine GN C q f hg B G hi hz d l g hx hy H D.2.2 j r F.2.2 ?_ p (by simp only[maxLen];omega) λA e v s d b=>h A e v s ⟨by simp[D.1,F.1],D.2.1,?_⟩ b
 ·intro u b;let⟨x,_,hx⟩:=aeD.1 b;exact acH.1 (h1 x) u hx
 ·rw[ad5];exact d
def kg(V:Env):List (Nat×Value)->Prop
 |[]=>True
 |(d,v)::us=>V d=v/\kg V us
def tV{d:Nat}{v:Value}(h:V d=v):lU V d v=V:=funext λt=>by
 cases hb:Nat.beq t d with
 |true=>simp only[lU,hb,afi];rw[ae2 hb];exact h.symm
 |false=>simp only[lU,hb,cond_false]
def BC:∀{a:List (Nat×Value)},kg V a->w8 V a=V
 |[],_=>rfl
 |(d,v)::a,h=>by simp only[w8];rw[tV h.1];exact BC h.2
def xM{c:Code}{K:Exit->Env->World->Prop}{a:List (Nat×Value)}(h:kg V a)(b:∀V,bu P n c K (w8 V a) w):bu P n c K V w:=by
 let:=b V
 rwa [BC h] at this
def ea{l:List Oper}(d:Nat)(t b:Bool)(c:t=b)(h:aZ P n ops l N (lU V d (.bool b)) w)(a:V d=.bool t:=by kernel_rfl):aZ P n ops l N V w:=by
 rwa [tV (c▸a)] at h
def jy{E:gB}{L:en}{s:mv}{listed:Array Bool}(d:Nat)(t b:Bool)(c:t=b)(h:fO P n ops E L N (ao s) listed (lU V d (.bool b)) w)(a:V d=.bool t:=by kernel_rfl):fO P n ops E L N (ao s) listed V w:=by
 rwa [tV (c▸a)] at h
def cT{c:Operand}{x y:Code}{K:Exit->Env->World->Prop}(t:Bool)(a:t=true)(h:bu P n x K V w)(hc:ev V c=.bool t:=by kernel_rfl):bu P n (.cond c x y) K V w:=tO (a▸hc) h
def cF{c:Operand}{x y:Code}{K:Exit->Env->World->Prop}(t:Bool)(a:t=false)(h:bu P n y K V w)(hc:ev V c=.bool t:=by kernel_rfl):bu P n (.cond c x y) K V w:=qB (a▸hc) h
def HP{a:List (Nat×Value)}(h:a.map (λx=>V x.1)=a.map (λx=>x.2):=by kernel_rfl):kg V a:=by
 induction a with
 |nil=>trivial
 |cons x a a=>
  let⟨d,v⟩:=x;simp only[acC,aeI] at h;exact⟨h.1,a h.2⟩
def nh{c:Operand}{x y:Code}{K:Exit->Env->World->Prop}(h:bu P n x K V w)(hc:ev V c=.bool true:=by kernel_rfl):bu P n (.cond c x y) K V w:=tO hc h
def B6{c:Operand}{x y:Code}{K:Exit->Env->World->Prop}(h:bu P n y K V w)(hc:ev V c=.bool false:=by kernel_rfl):bu P n (.cond c x y) K V w:=qB hc h
def gY{l:List Oper}{o:Oper}{j:Nat}{b:Bool}(h:aZ P n ops ({o with guard:=none}::l) N V w)(hg:o.guard=some (j,b):=by rfl)(hy:rv ops V j n b:=by exact⟨_,rfl,rfl,by kernel_rfl⟩):aZ P n ops (o::l) N V w:=yt hg hy h
def tmpsOf(V:Env):List ResultVar->Option fa
 |[]=>some []
 | .tmp d::rs=>(tmpsOf V rs).map (V d::·)
 |_::_=>none
def ze:∀{rs:List ResultVar} {vs:List Value},tmpsOf V rs=some vs->DQ P V w rs vs
 |[],vs,h=>by simp only[tmpsOf,adh] at h;subst h;exact .nil
 |r::rs,vs,h=>by
  cases r with
  |tmp d=>
   simp only[tmpsOf,aeT] at h;obtain⟨us,h1,rfl⟩:=h;exact .cons (.tmp _ _ Z) (ze h1)
  |_=>cases h
def fc{fn:Func}{R:Ending->World->Prop}{rs:List ResultVar}(vs:fa)(h:R (.returned (packed vs)) w)(b:fn.results=rs.toArray:=by rfl)(a:tmpsOf V rs=some vs:=by kernel_rfl):
 qC P fn R .ret V w:=hD b (ze a) h
def xJ(w:World)(b:Nat):Nat->fa->Prop
 |_,[]=>True
 |off,v::vs=>w.cell? ⟨b,off,none⟩=some v/\xJ w b (off+1) vs
def xJ.get{w:World}{b:Nat}:∀{off:Nat} {vs:fa},xJ w b off vs->∀j v,vs[j]?=some v->w.cell? ⟨b,off+j,none⟩=some v
 |_,[],_,j,v,h=>sZ
 |off,u::a,hc,0,v,h=>by simp at h;subst h;exact hc.1
 |off,u::a,hc,j+1,v,h=>by
  let:=hc.2.get j v dV
  grind
def ul{t:TypeId}{x:Operand}{b off k:Nat}{vs:fa}(a:o.op=.load t x)(a:(isAgg t).run P w=.ok true w)(a:(sizeOf t).run P w=.ok k w)
 (hx:ev V x=.pointer (some ⟨b,off,none⟩)) (a:vs.length=k) (hc:xJ w b off vs):Yields P V o (.agg vs.toArray) w:=by
 subst a;let c:∀j v,vs[j]?=some v->w.cell? ((⟨b,off,none⟩:Addr).add j)=some v:=λj v a=>by rw[fD];exact hc.get j v a
 let a:=run_loadCells_list (P:=P) w ⟨b,off,none⟩ vs c;exact Ny
def nW(h:X W w O)(i off:Nat)(vs:fa){t:TypeId}{b k:Nat}{c:nO}{E:TypeId}{f:Nat×Nat}(e:(isAgg t).run P w=.ok true w)(d:(sizeOf t).run P w=.ok k w)
 (hi:O[i]?=some [(b,.cells c E f)]) (a:vs.length=k) (g:(c.toList.drop off).take vs.length=vs):(loadVar t ⟨b,off,none⟩).run P w=.ok (.agg vs.toArray) w:=by
 subst a;let hc:∀j v,vs[j]?=some v->w.cell? ((⟨b,off,none⟩:Addr).add j)=some v:=λj v a=>by rw[fD];exact(na.dO (O:=O) i hi g).cell h a
 let a:=run_loadCells_list (P:=P) w ⟨b,off,none⟩ vs hc;simp[loadVar,e,d,a]
def bl.dO{α:Type}{enc:α->fa}{sz b:Nat}{c:nO}{E:TypeId}{f:Nat×Nat}{xs:List α}(he:∀x,(enc x).length=sz)(k:Nat)(i:Nat)(hi:O[i]?=some [(b,.cells c E f)])(hc:c.toList=xs.flatMap enc)(d:xs.length=k)(a:k<=16777216):
 bl enc sz O (some ⟨b,0,none⟩) k k xs:=⟨d,he,Bt.dO i hi hc (by rw[eO he,d]) (by simp only[maxLen];omega)⟩
end
end Go.E
namespace Go.E
open Go.RowKit
def blocks(w:World):af:=(List.range w.heap.size).map λi=>(i,w.heap.getD i default)
def zZ{w:World}{b:Nat}{o:Obj}(h:w.heap[b]?=some o):(b,o)∈blocks w:=by
 have a:b<w.heap.size:=(adF.1 h).1;refine acG.2 ⟨b,adW.2 a,?_⟩
 simp_all
def KP(w:World):X w w [blocks w]:=by
 refine⟨rfl,rfl,rfl,?_,?_⟩
 ·let:(blocks w).map (·.1)=List.range w.heap.size:=by simp[blocks,Function.comp_def]
  simp only[acU,List.flatten_nil,acR,this];exact List.nodup_range
 ·intro p hp;simp only[acU,List.flatten_nil,acR,blocks,acG,adW] at hp;obtain⟨i,a,rfl⟩:=hp;simp[ad7,a]
def Db{w w':World}{O:cj}(h:X w w' O)(c:∀p∈blocks w,p∈O.flatten):Below w.heap.size w w':=by
 let b:∀k,k<w.heap.size->w'.heap[k]?=w.heap[k]?:=λk a=>by
  let:w.heap[k]?=some w.heap[k]:=by simp[a]
  rw[this];exact h.heap (c _ (zZ this))
 refine⟨h.os,h.tape,h.output,?_,b⟩
 grind
def Rl(K:IntKind){w:World}{a:cf}{len cap:Nat}{zs:aR}
 (h:(a=none/\len=0/\cap=0/\zs=[])\/∃x,a=some x/\len<=cap/\cap<=maxLen/\zs.length=cap/\(∀i,i<zs.length->w.cell? (x.add i)=some (.int K (zs.getD i 0)))/\∀n∈zs,(Lit.int K n).wf=true):
 bl (λx=>[Value.int K x]) 1 [blocks w] a len cap (zs.take len):=by
 rcases h with⟨rfl,rfl,rfl,rfl⟩|⟨x,rfl,e,d,hz,hc,_⟩
 ·exact bl.nil (enc:=λx=>[Value.int K x]) (sz:=1) (λ_=>rfl) _
 ·refine⟨by simp;omega,λ_=>rfl,⟨by rw[eO (sz:=1) (λ_=>rfl)];simp;omega,e,d,?_⟩⟩;by_cases h0:len=0
  ·exact .inl h0
  ·right;have e:=hc 0 (by omega);have d:x.add 0=x:=by rfl
   rw[d] at e;obtain⟨b,off,sp⟩:=x
   have d:sp=none:=by
    cases sp with
    |none=>rfl
    |some s=>
     exfalso;unfold World.cell? at e;split at e
     ·simp at e
     ·cases e
   subst d
   have d:∃c E f,w.heap[b]?=some (.cells c E f):=by
    grind[World.cell?]
   obtain⟨c,E,f,hh⟩:=d;refine⟨b,off,rfl,c,E,f,by simpa using zZ hh,?_⟩;apply acQ;intro j;have hlen:((zs.take len).flatMap (λx=>[Value.int K x])).length=len:=by rw[eO (sz:=1) (λ_=>rfl)];simp;omega
   rw[hlen];by_cases g:j<len
   ·rw[ac0,aca g,ad8];have d:=hc j (by omega);rw[fD] at d;simp only[World.cell?,hh,Option.isSome_none,adJ,adR] at d;have:c.toList[off+j]?=some (.int K (zs.getD j 0)):=by simp_all
    rw[this]
    have e:∀(l:aR) (k:Nat),(l.flatMap (λx=>[Value.int K x]))[k]?=(l[k]?).map (Value.int K ·):=by
     intro l
     induction l with
     |nil=>simp
     |cons y d d=>intro k;cases k with|zero=>simp|succ k=>simp[d]
    rw[e,ac0,aca g];have d:j<zs.length:=by omega
    simp[acp,d]
   ·rw[ac0,ab9 g,acY (by omega)]
def XR{w:World}{a:cf}{len cap:Nat}{zs:aR}
 (h:(a=none/\len=0/\cap=0/\zs=[])\/∃x,a=some x/\len<=cap/\cap<=maxLen/\zs.length=cap/\(∀i,i<zs.length->w.cell? (x.add i)=some (.int .i64 (zs.getD i 0)))/\∀n∈zs,(Lit.int .i64 n).wf=true):
 bl ca 1 [blocks w] a len cap (zs.take len):=Rl .i64 h
end Go.E
namespace Go.E
set_option linter.unusedVariables false
set_option linter.unusedSimpArgs false
section
variable{P:Program}{n:Nat}{V:Env}{W w:World}{O:cj}{ops:Array Oper}{rest:List Oper}{N:Env->World->Prop}{o:Oper}
def wrap_u64(a:Int):IntKind.u64.wrap a=a%18446744073709551616:=by rfl
def wrap_u8(a:Int):IntKind.u8.wrap a=a%256:=by rfl
def ee(a:Int)(h:0<=a/\a<18446744073709551616):IntKind.u64.wrap a=a:=by rw[wrap_u64];omega
theorem yq(a:Int)(h:-9223372036854775808<=a/\a<=9223372036854775807):IntKind.i64.wrap a=a:=wrap_i64 h
def fo{src b:TypeId}{x:Operand}{k k':IntKind}{a v:Int}{d:TypeDesc}(g:P.underlying src=some d)(f:P.underlying b=some (.int k'))(e:k'.wrap a=v)
 (c:o.op=.convert src b x) (hx:ev V x=.int k a):Yields P V o (.int k' v) w:=by
 unfold Yields execOp;rw[c];simp[hx,convert,run_underlying g,run_underlying f,Conv.intToInt,e]
def yw{op:BinOp}{t u:TypeId}{x y:Operand}{k k':IntKind}{a b:Int}{v:Value}(c:o.op=.binOp op t x y u)(hx:ev V x=.int k a)(hy:ev V y=.int k' b)
 (c:(binOp op t (.int k a) (.int k' b)).run P w=.ok v w):Yields P V o v w:=by
 simp_all[Yields,execOp,eqGuard]
def uX{t u:TypeId}{x y:Operand}(k k':IntKind)(a s q:Int)(d:o.op=.binOp .shr t x y u)(hx:ev V x=.int k a)(hy:ev V y=.int k' s)(c:0<=s)(b:2^min s.toNat k.bits=q):
 Yields P V o (.int k (a/q)) w:=by
 subst b;exact yw d hx hy (by simp[binOp,shift_shr_any k k' a s c])
def ui{t u:TypeId}{x y:Operand}(k k':IntKind)(a s q v:Int)(e:o.op=.binOp .shl t x y u)(hx:ev V x=.int k a)(hy:ev V y=.int k' s)(d:0<=s)(c:2^min s.toNat k.bits=q)(b:k.wrap (a*q)=v):
 Yields P V o (.int k v) w:=by
 subst c;subst b;exact yw e hx hy (by simp[binOp,shift_shl_any k k' a s d])
theorem WE(a b:Nat)(ha:a%256=0)(c:b<256):a|||b=a+b:=by
 let h:a=2^8*(a/256):=by omega
 rw[h,Nat.two_pow_add_eq_or_of_lt (by omega)]
def Hh{t:TypeId}{a b:Int}(ha:0<=a/\a<18446744073709551616)(h8:a%256=0)(hb:0<=b/\b<256):
 (binOp .or t (.int .u64 a) (.int .u64 b)).run P w=.ok (.int .u64 (a+b)) w:=by
 obtain⟨m,rfl⟩:=Int.eq_ofNat_of_zero_le ha.1;obtain⟨k,rfl⟩:=Int.eq_ofNat_of_zero_le hb.1
 have e:IntKind.u64.wrap (((BitVec.ofInt 64 (m:Int)|||BitVec.ofInt 64 (k:Int)):BitVec 64).toNat:Int)=(m:Int)+k:=by
  grind[BitVec.toNat_or,BitVec.toNat_ofNat,Nat.mod_eq_of_lt,WE,IntKind.wrap,IntKind.bits,IntKind.signed]
 show(Op.intBits .or .u64 (m:Int) (k:Int)).run P w=_;have e2:(Op.intBits .or .u64 (m:Int) (k:Int))=pure (.int .u64 (IntKind.u64.wrap (((BitVec.ofInt 64 (m:Int)|||BitVec.ofInt 64 (k:Int)):BitVec 64).toNat:Int))):=rfl
 simp_all
def og{t u:TypeId}{x y:Operand}(a b:Int)(e:o.op=.binOp .or t x y u)(hx:ev V x=.int .u64 a)(hy:ev V y=.int .u64 b)(ha:0<=a/\a<18446744073709551616)(d:a%256=0)(c:0<=b/\b<256):
 Yields P V o (.int .u64 (a+b)) w:=yw e hx hy (Hh ha d c)
def ti(l:fa)(sz:Nat)(c:l.length=sz):∀(m i:Nat),i<m*sz->((List.replicate m l).flatten)[i]?=l[i%sz]?:=by
 intro m
 induction m with
 |zero=>intro i h;omega
 |succ m b=>
  intro i h;rw[Nat.succ_mul] at h;rw[aej,acU];rcases Nat.lt_or_ge i sz with a|a
  ·rw[ada (by omega),aeY a]
  ·rw[adm (by omega),c,b _ (by omega)];let e:i=(i-sz)+sz:=by omega
   conv=>rhs;rw[e,Nat.add_mod_right]
def Ld{α:Type}{enc:α->List Value}(z:α)(m sz:Nat)(zc:Array Value)(hz:zc.toList=enc z)(hsz:(enc z).length=sz):(madeCells zc (m*sz)).toList=(List.replicate m z).flatMap enc:=by
 let hs:zc.size=sz:=by rw[<-hsz,<-hz];simp
 let he:(List.replicate m z).flatMap enc=(List.replicate m (enc z)).flatten:=by simp[List.flatMap]
 rw[he];let hlen:((List.replicate m (enc z)).flatten).length=m*sz:=by simp[hsz]
 apply acQ;intro i;rcases Nat.lt_or_ge i (m*sz) with hi|hi
 ·rw[ti _ sz hsz m i hi];let hsz0:0<sz:=by rcases Nat.eq_zero_or_pos sz with h|h;(subst h;simp at hi);exact h
  let hm:i%sz<sz:=aeC _ hsz0;simp only[madeCells,Array.toList_map,Array.toList_range,acE];rw[afb hi];simp only[ad1,hs];rw[<-hz,Array.getElem?_toList];rw[aeJ (by omega),getElem!_pos zc (i%sz) (by omega)]
 ·rw[acY (by simp[madeCells];omega),acY (by omega)]
def gC{α:Type}{enc:α->fa}(s:X W w O)(k:α)(m:Nat)(v:Int)(d:v=(m:Int)){t E:TypeId}{x y:Operand}{i:TypeInfo}{z:Value}{sz nb:Nat}{kl kc:IntKind}(r:P.underlying t=some (.slice E))(hi:P.info? E=some i)
 (he:∀x,(enc x).length=sz)
 (h:∀b c j,aF enc E sz (some ⟨b,0,none⟩) m m (List.replicate m k) c->X W j (c::O)->aZ P n ops rest N (put V o.dst (.slice (some ⟨b,0,none⟩) m m)) j)
 (q:nb*m<=281474976710656:=by omega)
 (p:o.op=.makeSlice t x y:=by rfl) (hg:o.guard=none:=by rfl) (l:cV n o.dst=true:=by rfl)
 (hz:i.zero=some z:=by rfl) (g:z.cells.toList=enc k:=by rfl) (e:i.size=sz:=by rfl) (f:i.bytes=nb:=by rfl)
 (hx:ev V x=.int kl v:=by kernel_rfl) (hy:ev V y=.int kc v:=by kernel_rfl) (a:0<nb:=by omega):aZ P n ops (o::rest) N V w:=by
 subst d
 let d:m<=maxLen:=by
  let:1*m<=nb*m:=acA _ a;let h0:maxLen=9223372036854775807:=by simp[maxLen]
  omega
 refine MP p hg l r hi hz e f hx hy s q d (λb c j d a=>h b c j ⟨by simp,he,?_⟩ a);rw[<-Ld k m sz z.cells g (he k)];exact d
def jj(x:Int):fa:=[.int .u8 x]
def Bytes(l:aR):Prop:=∀b∈l,0<=b/\b<256
end
section
variable{P:Program}{n:Nat}{V:Env}{W w:World}{O:cj}{ops:Array Oper}{rest:List Oper}{N:Env->World->Prop}{o:Oper}{K:Exit->Env->World->Prop}
abbrev I(x:Int):Value:=.int .i64 x
abbrev At(b o:Nat):cf:=some ⟨b,o,none⟩
abbrev Pt(b o:Nat):Value:=.pointer (some ⟨b,o,none⟩)
def kr{α:Type}{a b:α}(h:a=b:=by kernel_rfl):a=b:=h
def Y{p:Prop}(h:p:=by omega):p:=h
def od{p:Prop}(h:p:=by first|omega|(dsimp only;omega)):p:=h
def mS{A B:af}(h:∀p∈A,p∈B:=by intro p hp;simp at hp⊢;simp[hp]):∀p∈A,p∈B:=h
def dI{α:Type}{a b:α}{q:Prop}(h:a=b:=by kernel_rfl):a=b\/q:=.inl h
def dA{p:Prop}(h:p:=by(repeat(refine⟨.inl (by kernel_rfl),?_⟩));exact trivial):p:=h
def fR{α a:Type}{f g:α->a}(h:∀x,f x=g x:=by intro _;rfl):∀x,f x=g x:=h
def nT{a:Env->World->Prop}(h:a V w):aZ P n ops [] (fU a K .normal) V w:=er (Cv h)
def nB{a:Env->World->Prop}{b:Nat}(h:a V w):aZ P n ops [] (kq b (fU a K) .normal) V w:=er (QP (Cv h))
def sR{a:Nat}{l:List Oper}{y:Code}(h:aZ P n l.toArray l (fU (bu P n y K) K .normal) V w):bu P n (.seq (.region a l.toArray false) y) K V w:=cO (Cb h)
def kT{a:Env->World->Prop}(h:a V w):bu P n .skip (fU a K) V w:=nY (Cv h)
def tR{b:Env->World->Prop}{a:Nat}(h:K .ret V w):fU b (kq a K) .ret V w:=C6 (Gd h)
def xB{b c:Env->World->Prop}{a:Nat}(h:K .normal V w):fU b (fU c (kq a K)) (.exit a) V w:=Jn (Jn (Eo h))
def sT1(p:X W w O)(i off:Nat)(v:Value)(j:nO){t:TypeId}{x y:Operand}{b k:Nat}{c:nO}{E:TypeId}(g:∀w,(sizeOf t).run P w=.ok k w)
 (h:∀a,X W a (O.set i (aW b j E))->aZ P n ops rest N V a)
 (m:o.op=.store t x y:=by rfl) (hg:o.guard=none:=by rfl) (l:o.dst=none:=by rfl) (hi:O[i]?=some (aW b c E):=by rfl)
 (hx:ev V x=.pointer (some ⟨b,off,none⟩):=by kernel_rfl) (hy:ev V y=v:=by kernel_rfl) (f:v.cells.toList=[v]:=by kernel_rfl) (e:1=k:=by kernel_rfl)
 (h1:[v].all (·.oneCell')=true:=by kernel_rfl) (a:Nat.ble (off+1) c.size=true:=by kernel_rfl) (d:wr c off [v]=j:=by kernel_rfl):aZ P n ops (o::rest) N V w:=
 sT p i off v [v] j g h m hg l hi hx hy f e h1 a d
def sTA(m:X W w O)(i off:Nat)(vs:fa)(g:nO){t:TypeId}{x y:Operand}{b k:Nat}{c:nO}{E:TypeId}(f:∀w,(sizeOf t).run P w=.ok k w)
 (h:∀a,X W a (O.set i (aW b g E))->aZ P n ops rest N V a)
 (l:o.op=.store t x y:=by rfl) (hg:o.guard=none:=by rfl) (j:o.dst=none:=by rfl) (hi:O[i]?=some (aW b c E):=by rfl)
 (hx:ev V x=.pointer (some ⟨b,off,none⟩):=by kernel_rfl) (hy:ev V y=.agg vs.toArray:=by kernel_rfl) (e:vs.length=k:=by kernel_rfl)
 (h1:vs.all (·.oneCell')=true:=by kernel_rfl) (a:Nat.ble (off+vs.length) c.size=true:=by kernel_rfl) (d:wr c off vs=g:=by kernel_rfl):aZ P n ops (o::rest) N V w:=
 sT m i off (.agg vs.toArray) vs g f h l hg j hi hx hy Z e h1 a d
def sTw(l:X W w O)(i:Nat)(vs:fa){t:TypeId}{x y:Operand}{b k:Nat}{c:nO}{E:TypeId}(f:∀w,(sizeOf t).run P w=.ok k w)
 (h:∀a,X W a (O.set i (aW b vs.toArray E))->aZ P n ops rest N V a)
 (j:o.op=.store t x y:=by rfl) (hg:o.guard=none:=by rfl) (g:o.dst=none:=by rfl) (hi:O[i]?=some (aW b c E):=by rfl)
 (hx:ev V x=.pointer (some ⟨b,0,none⟩):=by kernel_rfl) (hy:ev V y=.agg vs.toArray:=by kernel_rfl) (e:vs.length=k:=by kernel_rfl)
 (h1:vs.all (·.oneCell')=true:=by kernel_rfl) (a:Nat.ble (0+vs.length) c.size=true:=by kernel_rfl) (d:wr c 0 vs=vs.toArray:=by kernel_rfl):aZ P n ops (o::rest) N V w:=
 sTA l i 0 vs vs.toArray f h j hg g hi hx hy e h1 a d
end
end Go.E
