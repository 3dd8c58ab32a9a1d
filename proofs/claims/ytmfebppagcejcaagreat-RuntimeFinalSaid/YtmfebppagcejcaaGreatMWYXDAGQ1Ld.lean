import Derived.Test.YtmfebppagcejcaaGreatMWYXDAGQ1Lb
set_option linter.all false
namespace Go.Proofs.YtmfebppagcejcaaGreat
open Go Go.E Go.Proofs.Tryz
set_option maxRecDepth 100000
set_option maxHeartbeats 2000000
variable{W w:World}{H:af}{F:cj}
structure gv where
 aP:Sl ah
 aV:Sl aA
 bi:Sl Int
 eP:Int
 tw:Int
 th:Int
 order:Sl Int
 eU:Sl aY
 first:Sl Int
 count:Sl Int
def gx(x:gv):fa:=[.slice x.aP.a x.aP.n x.aP.k,.slice x.aV.a x.aV.n x.aV.k,.slice x.bi.a x.bi.n x.bi.k,I x.eP,I x.tw,I x.th,.slice x.order.a x.order.n x.order.k,.slice x.eU.a x.eU.n x.eU.k,.slice x.first.a x.first.n x.first.k,.slice x.count.a x.count.n x.count.k]
structure Zv where
 aP:List aM
 aV:List bc
 bi:aR
 eP:Int
 tw:Int
 th:Int
 order:aR
 eU:List aY
 first:aR
 count:aR
 deriving DecidableEq
def gv.v(x:gv):Zv:=⟨x.aP.l.map ah.v,x.aV.l.map aA.v,x.bi.l,x.eP,x.tw,x.th,x.order.l,x.eU.l,x.first.l,x.count.l⟩
structure gv.Ok(O:cj)(q:gv):Prop where
 aP:bl au 4 O q.aP.a q.aP.n q.aP.k q.aP.l
 tz:∀z∈q.aP.l,ah.Ok O z
 aV:bl aL 18 O q.aV.a q.aV.n q.aV.k q.aV.l
 jK:∀z∈q.aV.l,aA.Ok O z
 bi:bl ca 1 O q.bi.a q.bi.n q.bi.k q.bi.l
 order:bl ca 1 O q.order.a q.order.n q.order.k q.order.l
 eU:bl gN 3 O q.eU.a q.eU.n q.eU.k q.eU.l
 first:bl ca 1 O q.first.a q.first.n q.first.k q.first.l
 count:bl ca 1 O q.count.a q.count.n q.count.k q.count.l
def gv.Ok.ag{O cs':cj}{x:gv}(h:gv.Ok O x)(a:∀p∈O.flatten,p∈cs'.flatten):gv.Ok cs' x:=⟨h.aP.ag a,λy hy=>(h.tz y hy).ag a,h.aV.ag a,λy hy=>(h.jK y hy).ag a,h.bi.ag a,h.order.ag a,h.eU.ag a,h.first.ag a,h.count.ag a⟩
def CU(ni:Int)(D:List aR)(out:aR):Prop:=∀pre x post,out=pre++x::post->∀s,D[(x-ni).toNat]?=some s->∀y∈s,y<ni\/y∈pre
def CU.nil{ni:Int}{D:List aR}:CU ni D []:=by
 intro pre x post h;simp_all
def CU.add{ni:Int}{D:List aR}{out:aR}{k:Nat}(h:CU ni D out)(hc:Cc ni D out k):CU ni D (out++[ni+(k:Int)]):=by
 intro i x b e s f y hy;rcases List.append_eq_append_iff.1 e with⟨z,h1,c⟩|⟨z,h1,c⟩
 ·cases z with
  |nil=>
   simp at h1 c;let⟨g,b,_,d⟩:=hc;rw[<-c.1,show(ni+(k:Int)-ni).toNat=k by omega,b] at f;obtain rfl:=ace f;rw[h1];exact d y hy
  |cons a z=>simp at c
 ·cases z with
  |nil=>
   simp at h1 c;let⟨g,b,_,d⟩:=hc;rw[c.1,show(ni+(k:Int)-ni).toNat=k by omega,b] at f;obtain rfl:=ace f;rw[<-h1];exact d y hy
  |cons a z=>
   simp at c;obtain⟨rfl,b⟩:=c;exact h i x z h1 s f y hy
def EY{ni:Int}(a:0<=ni){D:List aR}:∀(k:Nat) {out:aR},CU ni D out->CU ni D (mM ni D k out)
 |0,out,h=>h
 |k+1,out,h=>by
  unfold mM;rcases sV a (out:=out) (D:=D) with h1|⟨m,h1,b,_⟩
  ·rw[aca h1.1];exact h
  ·exact(by rw[ab9 (by omega),h1];exact EY a k (h.add b))
def oy.every{ni:Int}{D:List aR}{out:aR}(h:oy ni D out)(a:out.length=D.length){x:Int}(h1:ni<=x)(b:x<ni+(D.length:Int)):x∈out:=by
 by_cases hx:x∈out
 ·exact hx
 ·exfalso
  let a:oy ni D (x::out):=⟨λy hy=>by
   rcases acw.1 hy with e|hy
   ·rw[e];exact⟨h1,b⟩
   ·exact h.r y hy,adP.2 ⟨hx,h.d⟩⟩
  let:=a.len;rw[acu] at this;omega
theorem Ii{ss:List bc}{ni:Int}{x:Int}{s:bc}(h:ss[(x-ni).toNat]?=some s):gq ss ni x=s:=by unfold gq;rw[h];rfl
theorem DL(s:bc):s.a∈df s:=by unfold df;split<;>simp
theorem Zq{s:bc}(h:fY s):s.b∈df s:=by grind[df]
def Et(ni:Int)(ss:List bc)(sh:List aY)(x:Int):Prop:=fu ni ss x sh=(eg sh x,0)
def KL{sh:List aY}{n y:Int}{v:aY}(h:n.toNat≠y.toNat):eg (sh.set n.toNat v) y=eg sh y:=by
 grind[eg]
def tf{ni n:Int}{ss:List bc}{sh a:List aY}(h:∀y∈df (gq ss ni n),eg a y=eg sh y):fu ni ss n a=fu ni ss n sh:=by
 grind[fu,DL,Zq]
theorem Hg{ni n:Int}{ss:List bc}{sh:List aY}(h:(fu ni ss n sh).2=0):mK (fu ni ss n sh).1:=OH h
def Fw{ni:Int}{ss:List bc}:∀(l pre:aR) (out:List aY),(pre++l).Nodup->(∀x∈pre++l,ni<=x/\x<out.length)->0<=ni->
 (∀p x q,pre++l=p++x::q->∀y∈df (gq ss ni x),0<=y/\(y<ni\/y∈p))->(∀x∈pre,mK (eg out x)/\Et ni ss out x)->(iB ni ss l out).2.2=0->
 (iB ni ss l out).1.length=out.length/\(∀x∈pre++l,mK (eg (iB ni ss l out).1 x)/\Et ni ss (iB ni ss l out).1 x)/\∀x,0<=x->x<ni->eg (iB ni ss l out).1 x=eg out x
 |[],pre,out,_,_,_,_,hp,_=>⟨rfl,by simpa [iB] using hp,λ_ _ _=>rfl⟩
 |n::l,pre,out,hd,hr,hn,hb,hp,h=>by
  unfold iB at h⊢;split at h
  ·rename_i hs;rw[aca hs];let hrn:=hr n (by simp)
   let hnd:n∉pre:=by
    grind
   let hk:∀y:Int,0<=y->(y<ni\/y∈pre)->eg (out.set n.toNat (fu ni ss n out).1) y=eg out y:=by
    intro y h0 hy;refine KL ?_;rcases hy with hy|hy
    ·omega
    ·let:=hr y (by simp[hy]);let:y≠n:=λe=>hnd (e▸hy);omega
   let hself:eg (out.set n.toNat (fu ni ss n out).1) n=(fu ni ss n out).1:=by
    unfold eg;grind
   let e:pre++[n]++l=pre++n::l:=by simp
   let ih:=Fw (ni:=ni) (ss:=ss) l (pre++[n]) (out.set n.toNat (fu ni ss n out).1) dV dV hn (by rw[e];exact hb) (by
    intro x hx;rcases acn.1 hx with hx|hx
    ·let h1:=hp x hx;let hx0:=hr x (by simp[hx]);let⟨p,q,hpq⟩:=aea hx;let hsrc:=hb p x (q++n::l) dV;refine⟨by grind,?_⟩;unfold Et
     rw[hk x Y (.inr hx),tf (sh:=out) (λy hy=>by
      grind)]
     exact h1.2
    ·simp only[ack] at hx;subst hx;let hsrc:=hb pre x l Z;refine⟨by grind[Hg],?_⟩;unfold Et;rw[hself,tf (sh:=out) (λy hy=>hk y (hsrc y hy).1 (hsrc y hy).2)];exact Prod.ext Z hs) h
   rw[e,acz] at ih;exact⟨ih.1,ih.2.1,λx h0 hx=>ft⟩
  simp_all
structure U3(j:et):Prop where
 ch:du j=0
 od:(ez j).2=0
 nn:1<=j.aa.length/\1<=j.ae.length/\j.aa.length+j.ae.length<=16
 xI:∀x∈(ez j).1,(j.aa.length:Int)<=x/\x<(j.aa.length:Int)+j.ae.length
 nd:(ez j).1.Nodup
 ln:(ez j).1.length=j.ae.length
 every:∀x:Int,(j.aa.length:Int)<=x->x<(j.aa.length:Int)+j.ae.length->x∈(ez j).1
 Y8:∀p x q,(ez j).1=p++x::q->∀y∈df (gq j.ae j.aa.length x),0<=y/\(y<(j.aa.length:Int)\/y∈p)
 len:(db j).1.length=j.aa.length+j.ae.length
 sz:∀x:Int,0<=x->x<(j.aa.length:Int)+j.ae.length->mK (eg (db j).1 x)
 fit:∀x∈(ez j).1,Et j.aa.length j.ae (db j).1 x
def ry{j:et}(h:(db j).2.2=0):U3 j:=by
 unfold db at h;split at h
 ·rename_i ho;split at h
  ·rename_i hp;have hc:=zL ho;have hl:=Fj hc;have hn:=IT hc
   have e0:(ez j).1=oK j/\(oK j).length=j.ae.length:=by
    have h1:=hl.1;split at h1
    ·rw[h1] at ho;simp at ho
    ·exact(by rename_i h2;have h3:=hl.2.len;grind)
   have a0:oy j.aa.length (j.ae.map df) (ez j).1:=by simp_all
   have b0:=a0.r;rw[acf] at b0;have i0:CU j.aa.length (j.ae.map df) (ez j).1:=by rw[e0.1];exact EY Y _ CU.nil
   have k0:∀x:Int,(j.aa.length:Int)<=x->x<(j.aa.length:Int)+j.ae.length->∃s,j.ae[(x-(j.aa.length:Int)).toNat]?=some s/\gq j.ae j.aa.length x=s:=(by grind[List.getElem?_eq_getElem,Ii]);have c0:∀p x q,(ez j).1=p++x::q->∀y∈df (gq j.ae j.aa.length x),0<=y/\(y<(j.aa.length:Int)\/y∈p):=(by intro p x q e y hy;have hx:=b0 x (by rw[e];simp);obtain⟨s,hs,he⟩:=k0 x hx.1 hx.2;rw[he] at hy;refine⟨(DW hc (s:=s) (ab8 hs) y hy).1,?_⟩;exact i0 p x q e (df s) dV y hy);have d0:(j.aa.map cd++List.replicate j.ae.length (⟨0,0,0⟩:aY)).length=j.aa.length+j.ae.length:=by simp
   have f0:=Fw (ni:=j.aa.length) (ss:=j.ae) (ez j).1 [] (j.aa.map cd++List.replicate j.ae.length ⟨0,0,0⟩) (by simpa using a0.d) dV Y (by simpa using c0) dV h;have m0:(db j).1=(iB j.aa.length j.ae (ez j).1 (j.aa.map cd++List.replicate j.ae.length ⟨0,0,0⟩)).1:=(by grind[db]);rw[<-m0,d0] at f0;have l0:∀x:Int,(j.aa.length:Int)<=x->x<(j.aa.length:Int)+j.ae.length->x∈(ez j).1:=λx h1 h2=>a0.every dV h1 dV;refine⟨hc,ho,hn,b0,a0.d,by simp_all,l0,c0,f0.1,?_,λx hx=>(f0.2.1 x dV).2⟩;intro x h0 hx;by_cases hi:x<(j.aa.length:Int)
   ·rw[f0.2.2 x h0 hi];have g0:x.toNat<j.aa.length:=by omega
    have j0:=acH.1 hp (j.aa[x.toNat]) (List.getElem_mem _);unfold eg;rw[ada mo,acE,aco g0];unfold aO at j0;simp only[ach,acr] at j0;have:=j0.1.1;unfold cU at this;show mK (cd _);unfold mK cd;dsimp only;omega
   ·exact(f0.2.1 x dV).1
  ·simp at h
 simp_all
def A8{zs:aR}(h:zs.Pairwise (·<=·)){i j:Nat}{x y:Int}(hi:zs[i]?=some x)(a:zs[j]?=some y)(a:i<=j):x<=y:=by
 grind[Option.some.inj,List.getElem?_eq_some_iff,List.pairwise_iff_getElem]
def AU{zs:aR}(h:zs.Pairwise (·<=·)):∀m,m<=zs.length->Mg (Go.Lib.compactUpTo zs.toArray m)/\∀x,x∈Go.Lib.compactUpTo zs.toArray m↔∃j,j<m/\zs[j]?=some x
 |0,_=>⟨by simp[Go.Lib.compactUpTo,Mg],λx=>by simp[Go.Lib.compactUpTo]⟩
 |m+1,a=>by
  let⟨h1,f⟩:=AU h m Y;have a:m<zs.length:=by omega
  let b:zs.toArray[m]! =zs[m]:=by simp[a]
  have hz:zs[m]?=some zs[m]:=aco a;rw[Go.Lib.compactUpTo_succ,b];by_cases a:Go.Lib.keeps zs.toArray m=true
  ·rw[aca a];constructor
   ·exact(by refine List.pairwise_append.2 ⟨h1,by simp,?_⟩;intro x hx y hy;simp only[ack] at hy;subst hy;let⟨j,d,c⟩:=(f x).1 hx;let hp:m-1<zs.length:=(by omega);let b:zs[m-1]?=some zs[m-1]:=aco hp;let ha:=A8 h c b Y;have a:=A8 h b hz Y;grind[Go.Lib.keeps])
   ·intro x;rw[acn,f,ack];constructor
    ·rintro(⟨j,d,c⟩|rfl)
     ·exact⟨j,Y,c⟩
     ·exact⟨m,Y,hz⟩
    ·rintro⟨j,d,c⟩;by_cases e:j=m
     ·subst e;rw[hz] at c;exact .inr (ace c).symm
     ·exact .inl ⟨j,Y,c⟩
  grind[Go.Lib.keeps,hz]
def zg(l:aR):Go.Lib.compact (l.mergeSort λx y=>decide (x<=y))=yC l:=by
 have e:(l.mergeSort λx y=>decide (x<=y)).Pairwise (·<=·):=(by have:=List.pairwise_mergeSort (le:=λx y:Int=>decide (x<=y)) (λa b c h1 d=>acg (aeA (acy h1) (acy d))) (λa b=>by simp;omega) l;simp_all);have h:=AU e _ (acS _);refine IF h.1 (Bm l) (λx=>?_);unfold Go.Lib.compact;rw[h.2,vV,<-List.mem_mergeSort (le:=λx y:Int=>decide (x<=y))]
 grind[List.mem_of_getElem?,List.getElem?_of_mem,List.getElem?_eq_some_iff]
structure jz(L:gg):Prop where
 ni:1<=L.ni/\L.ni+(L.ss.length:Int)<=16
 xI:∀x∈L.od,L.ni<=x/\x<L.ni+(L.ss.length:Int)
 every:∀x:Int,L.ni<=x->x<L.ni+(L.ss.length:Int)->x∈L.od
 nd:L.od.Nodup
 ln:L.od.length=L.ss.length
 Y8:∀p x q,L.od=p++x::q->∀y∈df (L.st x),0<=y/\(y<L.ni\/y∈p)
 len:(L.sh.length:Int)=L.ni+(L.ss.length:Int)
 sz:∀x:Int,0<=x->x<L.ni+(L.ss.length:Int)->mK (eg L.sh x)
 fit:∀x∈L.od,Et L.ni L.ss L.sh x
 tl:lh L.tw L.th
def OY{j:et}{tw th:Int}(h:U3 j)(a:lh tw th):jz (rj j tw th):=
 ⟨by let:=h.nn;simp only[rj];omega,h.xI,h.every,h.nd,h.ln,h.Y8,by let:=h.len;simp only[rj];omega,h.sz,h.fit,a⟩
section
variable{L:gg}(g:jz L)
include g
def jz.src{x:Int}(hx:x∈L.od):∀y∈df (L.st x),0<=y/\y<L.ni+(L.ss.length:Int)/\(y<L.ni\/y∈L.od):=by
 let⟨p,q,e⟩:=aea hx;intro y hy;let h:=g.Y8 p x q e y hy;rcases h.2 with a|a
 ·exact⟨h.1,by omega,.inl a⟩
 ·exact(by let a:y∈L.od:=dV;let:=g.xI y a;simp_all)
def jz.PF{x:Int}(hx:x∈L.od):mK (L.cut x):=by
 unfold gg.cut;split
 ·let:=g.src hx _ (DL _);exact g.sz _ this.1 this.2.1
 ·let:=g.xI x hx;let:=g.ni;exact g.sz _ (by omega) (by omega)
def jz.RH{x:Int}(hx:x∈L.od):iD (L.cut x).w (L.cut x).h L.tw L.th:=by
 let h:=g.PF hx;let a:=g.tl
 grind[mK,lh,iD]
def jz.CV{x:Int}(hx:x∈L.od):uY (L.st x):=by
 let h:=g.fit x hx;unfold Et fu at h;exact PE (acd Prod.snd h)
def jz.Ig{x:Int}(hx:x∈L.od):(1<=L.nx x/\L.nx x<=128)/\(1<=L.ny x/\L.ny x<=128)/\1<=L.nx x*L.ny x/\L.nx x*L.ny x<=16384:=by
 let h:=mR (g.RH hx);unfold gg.nx gg.ny;refine⟨h.1,h.2,?_,?_⟩
 ·let:=adu h.1.1 h.2.1 (by omega) (by omega);omega
 ·let:=adu h.1.2 h.2.2 (by omega) (by omega);omega
def jz.sK{x:Int}(hx:x∈L.od):1<=L.gy x/\L.gy x<=16385:=by
 let h:=(g.Ig hx).2.2
 grind[gg.gy]
end
theorem x8{f:Int->Int}{x:Int}:∀(p q:aR),x∉p->xP f (p++x::q) x=(p.map f).sum
 |[],q,_=>by simp[xP]
 |y::p,q,h=>by
  let hy:y≠x:=λe=>h (by simp[e]);rw[acP,xP,ab9 hy,x8 p q (λa=>h (by simp[a]))];simp
def tM{f:Int->Int}:∀(l:aR),(∀x∈l,0<=f x)->0<=(l.map f).sum
 |[],_=>by simp
 |y::l,h=>by
  let:=tM l (λx hx=>h x (by simp[hx]))
  grind
def jz.rk{L:gg}(g:jz L){p q:aR}{x:Int}(e:L.od=p++x::q):L.first x=(p.map L.gy).sum/\x∉p:=by
 let b:=g.nd;rw[e] at b;let hx:x∉p:=λa=>(aex.1 b).2.2 x a x (by simp) Z
 grind[gg.first,x8]
def jz.xR{L:gg}(g:jz L){x:Int}(hx:x∈L.od):0<=L.first x/\L.first x+L.gy x<=L.dU:=by
 let⟨p,q,e⟩:=aea hx;let⟨h1,a⟩:=g.rk e;let hp:=tM (f:=L.gy) p (λy hy=>by let:=g.sK (x:=y) dV;omega);let a:=tM (f:=L.gy) q (λy hy=>by let:=g.sK (x:=y) dV;omega)
 grind[gg.dU]
def jz.Xm{L:gg}(g:jz L):0<=L.dU/\L.dU<=262160:=by
 let h:∀l:aR,(∀x∈l,x∈L.od)->(l.map L.gy).sum<=16385*l.length:=by
  intro l
  induction l with
  |nil=>intro _;simp
  |cons y l a=>intro b;let h1:=a (λx hx=>b x (by simp[hx]));let a:=g.sK (b y (by simp));simp only[acC,ady,acu];push_cast;omega
 let h1:=h L.od (λ_ hx=>hx);let a:=tM (f:=L.gy) L.od (λy hy=>by let:=g.sK hy;omega);let a:=g.ln;let a:=g.ni
 grind[gg.dU]
def Js{s:bc}{w h tw th:Int}{r:dY}:(lz s w h tw th r).length<=16384:=by
 unfold lz;refine adG (ade _ _) ?_;rw[jG];unfold CS;by_cases hf:iD w h tw th
 ·exact Zd
 ·rw[(uL hf).1];simp
def EC{L:gg}(g:jz L){s:bc}{r:dY}{x:Int}(hx:x<L.ni\/x∈L.od):(L.gZ s r x).length<=16385:=by
 unfold gg.gZ;split
 ·simp
 ·rename_i h0;let hm:x∈L.od:=by simp_all
  split
  ·rw[acf,jG];let:=g.sK hm;omega
  ·split
   ·simp
   ·rw[acf];exact adG Js (by omega)
def vq{L:gg}(g:jz L){s:bc}{r:dY}:∀l:aR,(∀x∈l,x<L.ni\/x∈L.od)->(l.flatMap (L.gZ s r)).length<=16385*l.length
 |[],_=>by simp
 |x::l,h=>by
  rw[ac8,acm,acu];let h1:=EC (s:=s) (r:=r) g (h x (by simp));let a:=vq (s:=s) (r:=r) g l (λy hy=>h y (by simp[hy]));omega
def CP(a b:Int):aR:=(gJ (b-a).toNat).map (a+·)
def Kg(a b:Int):(CP a b).length=(b-a).toNat:=by grind[CP,List.length_map,jG]
def Fm(k:Nat)(a:Int):(gJ (k+1)).map (a+·)=(gJ k).map (a+·)++[a+(k:Int)]:=sQ k _
def r9{α:Type}{l:aR}{i:Nat}{x:Int}{f:Int->List α}(h:l[i]?=some x):(l.take (i+1)).flatMap f=(l.take i).flatMap f++f x:=by
 exact Bf
def gv.L(x:gv):gg:=⟨(x.aP.n:Int),x.aV.l.map aA.v,x.eU.l,x.order.l,x.tw,x.th⟩
def WX(x:gv):Prop:=∀n∈x.L.od,x.first.l[n.toNat]?=some (x.L.first n)/\x.count.l[n.toNat]?=some (x.L.gy n)
def Aa{x:gv}{n:Int}{q:aA}(h:x.aV.l[(n-(x.aP.n:Int)).toNat]?=some q):x.L.st n=q.v:=Ii (cg (f:=aA.v) h)
def u9{l:List aY}{i:Int}{m:aY}(h:l[i.toNat]?=some m):eg l i=m:=by unfold eg;rw[h];rfl
def xQ{b:Nat}{x:gv}(hx:gv.Ok [H] x)(c:X W w (aW b (gx x).toArray 255::H::F)):
 Calls prog 217 #[Pt b 0] w λe a=>e=.returned (I x.aP.n)/\X W a (aW b (gx x).toArray 255::H::F):=by
 let a:=hx.aP.ll;let a:=hx.aV.ll;let a:=hx.bi.ll;let a:=hx.order.ll;let a:=hx.eU.ll;let a:=hx.first.ll;let a:=hx.count.ll;exact aq 9 func217 Z<|LX c 17 [0] Z<|fc [I x.aP.n]<|⟨rfl,c⟩
def nj{b:Nat}{x:gv}(hx:gv.Ok [H] x)(f:Int)(a:(x.aP.n:Int)<=f/\f<(x.aP.n:Int)+x.aV.n)(a:x.aP.n<=1000/\x.aV.n<=1000)(c:X W w (aW b (gx x).toArray 255::H::F)):
 Calls prog 149 #[Pt b 0,I f] w λe a=>∃q:aA,e=.returned (.agg (aL q).toArray)/\x.aV.l[(f-(x.aP.n:Int)).toNat]?=some q/\X W a (aW b (gx x).toArray 255::H::F):=by
 have a:=hx.aP.ll;have a:=hx.aV.ll;have a:=hx.bi.ll;have a:=hx.order.ll;have a:=hx.eU.ll;have a:=hx.first.ll;have a:=hx.count.ll;refine aq 16 func149 Z<|Q 2<|aI c zeroValue115 λ_ _ c=>JO 3 ?_;obtain⟨g,a,a,i,d,h⟩:=bl.elem hx.aV (f-(x.aP.n:Int));refine bJ c [7,11] (fb 4 1 1 1<|fp 10 (d.up 2 Z)<|fn) [0,1,2,3,5,6,4,7,8,9,10,11] λ_ h0=>wV 6<|wL 0<|wO Z ?_;have a:=(h0.pick 1 Z);refine cZ (xQ (hx.ag (mF 1)) a.aQ) ?_;rintro _ _⟨rfl,a⟩;have c:=a.ak;exact er ⟨⟨cI c 0,.inr ((d.up 2 Z).cell c (k:=0) Z),.inr ((d.up 2 Z).cell c (k:=1) Z),.inr ((d.up 2 Z).cell c (k:=2) Z),.inr ((d.up 2 Z).cell c (k:=3) Z),.inr ((d.up 2 Z).cell c (k:=4) Z),.inr ((d.up 2 Z).cell c (k:=5) Z),.inr ((d.up 2 Z).cell c (k:=6) Z),.inr ((d.up 2 Z).cell c (k:=7) Z),.inr ((d.up 2 Z).cell c (k:=8) Z),.inr ((d.up 2 Z).cell c (k:=9) Z),.inr ((d.up 2 Z).cell c (k:=10) Z),.inr ((d.up 2 Z).cell c (k:=11) Z),.inr ((d.up 2 Z).cell c (k:=12) Z),.inr ((d.up 2 Z).cell c (k:=13) Z),.inr ((d.up 2 Z).cell c (k:=14) Z),.inr ((d.up 2 Z).cell c (k:=15) Z),.inr ((d.up 2 Z).cell c (k:=16) Z),.inr ((d.up 2 Z).cell c (k:=17) Z),trivial⟩,(vY f (x.aP.n:Int)<|wI h<|wG 1 18<|wO Z<|bP c 1 Z (aL g) λ_ a=>nA<|wN<|jXR 2 Z<|hD (vs:=[.agg (aL g).toArray]) Z (.cons (.cell _ _ _ _ kr (nW a 1 0 (aL g) (isAgg115 _) (sizeOf115 _) Z Z Z)) .nil)<|⟨g,rfl,i,(a.aj 1 Z)⟩)⟩
def JF{b:Nat}{x:gv}(hx:gv.Ok [H] x)(j:Int)(hg:jz x.L)(a:x.aV.n=x.aV.l.length)(g:j∈x.L.od)(c:X W w (aW b (gx x).toArray 255::H::F)):
 Calls prog 211 #[Pt b 0,I j] w λe a=>e=.returned (.agg #[I ((x.L.cut j).w),I ((x.L.cut j).h),I ((x.L.cut j).aG)])/\X W a (aW b (gx x).toArray 255::H::F):=by
 have a:=hx.aP.ll;have a:=hx.aV.ll;have w0:=hx.bi.ll;have a:=hx.order.ll;have a:=hx.eU.ll;have a:=hx.first.ll;have a:=hx.count.ll;have a:1<=(x.aP.n:Int)/\(x.aP.n:Int)+x.aV.n<=16:=by have h:=hg.ni;simp only[gv.L,acf] at h;omega
 have a:(x.eU.n:Int)=x.aP.n+(x.aV.n:Int):=by have h:=hg.len;simp only[gv.L,acf] at h;omega
 have a:lh x.tw x.th:=hg.tl;unfold lh at a;have a:(x.aP.n:Int)<=j/\j<(x.aP.n:Int)+x.aV.n:=by have h:=hg.xI j g;simp only[gv.L,acf] at h;omega
 refine aq 27 func211 Z<|Q 2<|aI c zeroValue109 λ_ _ a=>JO 6 ?_;have c:=(a.pick 1 Z);refine cZ (nj (hx.ag (mF 1)) j Y Y c.aQ) ?_;rintro _ _⟨i,rfl,c,a⟩;have d:=a.ak;have a:=hx.jK i (ab8 c);have m:=Aa c;refine aI d zeroValue115 λ_ _ a=>bP a 0 Z (aL i) λ_ f=>er ?_;have a:=hg.src g i.a (by rw[m];exact DL _);simp only[gv.L,acf] at a;refine GX f 9 [0]<|cE i.aB 4 (λl=>Q 1<|(by obtain⟨c,a,a,k,a,d⟩:=bl.elem hx.eU i.a;refine bJ f [8] (fb 3 1 7 1<|fb 5 0 1 1<|fp 7 (a.up 3 Z)<|fn) [0,1,2,4,3,5,6,7,8] λ_ a=>wV 4<|wL 0<|wL 1<|wI d<|wG 2 3<|wO Z<|bP a 2 Z [I c.w,I c.h,I c.aG] λ_ a=>nA<|wN<|jXR 3 Z<|hD (vs:=[.agg #[I c.w,I c.h,I c.aG]]) Z (.cons (.cell _ _ _ _ kr (nW a 2 0 [I c.w,I c.h,I c.aG] (isAgg109 _) (sizeOf109 _) Z Z Z)) .nil) ?_;have d:=(a.ap [0,1]);have g:x.L.cut j=c:=(by unfold gg.cut;rw[m,aca (show i.v.aB=4 from l)];exact u9 k);exact yY)) λl=>?_;refine GC f 9 [1]<|oJ hx.eU j λc _ _ d a=>lv f (a.up 3 Z) 0 [I c.w,I c.h,I c.aG]<|bP f 2 Z [I c.w,I c.h,I c.aG] λ_ h0=>my 3 Z<|hD (vs:=[.agg #[I c.w,I c.h,I c.aG]]) Z (.cons (.cell _ _ _ _ kr (nW h0 2 0 [I c.w,I c.h,I c.aG] (isAgg109 _) (sizeOf109 _) Z Z Z)) .nil) ?_;have a:=(h0.ap [0,1]);have g:x.L.cut j=c:=by unfold gg.cut;rw[m,ab9 (show ¬i.v.aB=4 from l)];exact u9 d
 exact A7
def wu{a:cf}{n k:Nat}{xs:aR}{c:af}(h up:Int)(l:aF ca 3 1 a n k xs c)(b:n<=1000000/\-1000000<=h/\up<=1000000)(p:X W w (c::F)):
 Calls prog 216 #[.slice a n k,I h,I up] w λe g=>∃(f:cf) (b d:Nat) (Zz:af),e=.returned (.slice f b d)/\aF ca 3 1 f b d (xs++CP h up) Zz/\X W g (Zz::F):=by
 let b:=l.ll;exact aq 19 func216 Z<|Q 13<|bF [2] (γ:=Nat×Int×aR×SO) (λ⟨i,j,m,f,o,d,b⟩ R=>⟨[(7,I j),(0,.slice f o d)],b::R,((up-h).toNat)-i,i<=(up-h).toNat/\(j=h+(i:Int))/\(m=xs++(gJ i).map (h+·))/\aF ca 3 1 f o d m b⟩) (0,h,xs,a,n,k,c) ⟨p,Y,Y,(by simp[gJ]),l⟩<|λ⟨i,j,m,f,o,d,b⟩ V _⟨l,b,q,p,g⟩=>let b:=g.ll;Q 8<|CD (j<up) (λb=>RC 12 [.slice f o d]<|(by let hz:m=xs++CP h up:=(by unfold CP;rw[p,show i=(up-h).toNat by omega]);exact⟨_,_,_,_,rfl,by rw[<-hz];exact g,l⟩)) λb=>Q 4<|let b:m.length=n+i:=(by rw[p];simp[jG];omega);Q 3<|ec l #[I j] 3 λ_ _ b=>dM (nb:=8) b g 1 (bl.dO (enc:=ca) (sz:=1) (xs:=[j]) fR 1 0 Z Z Z Y) underlying22 (i:=Tryz.t3) kr fR λb f d _ g h0=>JO 6<|aU j 1<|bX 2 Z<|⟨(i+1,(j+1),(m++[j]),b,(o+1),f,d),od,bR,(h0.aj 0 Z),Y,Y,(by rw[Fm,<-acx,<-p,q]),g⟩
def Zs(w h tw th:Int):(CS w h tw th:Int)<=16384:=by
 unfold CS;by_cases hf:iD w h tw th
 ·exact Zd
 ·rw[(uL hf).1];simp
def Kt{b:Nat}{x:gv}(hx:gv.Ok [H] x){q:aA}(z:aA.Ok [H] q)(r:dY)(hg:jz x.L)(l:x.aV.n=x.aV.l.length)(p:WX x)(k:∀y∈df q.v,0<=y/\y<x.L.ni+(x.L.ss.length:Int)/\(y<x.L.ni\/y∈x.L.od))(m:X W w (aW b (gx x).toArray 255::H::F)):
 Calls prog 214 #[Pt b 0,.agg (aL q).toArray,.agg (ep r).toArray] w λe g=>∃(d:cf) (a c:Nat) (Zz:af),e=.returned (.slice d a c)/\aF ca 3 1 d a c (x.L.oe q.v r) Zz/\X W g (Zz::aW b (gx x).toArray 255::H::F):=by
 have a:=hx.aP.ll;have a:=hx.aV.ll;have a:=hx.bi.ll;have a:=hx.order.ll;have a:=hx.eU.ll;have a:=hx.first.ll;have a:=hx.count.ll;have a:1<=(x.aP.n:Int)/\(x.aP.n:Int)+x.aV.n<=16:=by have h:=hg.ni;simp only[gv.L,acf] at h;omega
 have a:(x.eU.n:Int)=x.aP.n+(x.aV.n:Int):=by have h:=hg.len;simp only[gv.L,acf] at h;omega
 have a:lh x.tw x.th:=hg.tl;unfold lh at a;have a:=z.ad.ll;have a:=z.row.ll;have a:=z.dG.ll;have a:=z.x.ll;have a:=z.y.ll;have a:=z.ops.ll;have T:∀y∈df q.v,0<=y/\y<(x.aP.n:Int)+x.aV.n/\(y<(x.aP.n:Int)\/y∈x.L.od):=λy hy=>by have h:=k y hy;simp only[gv.L,acf] at h⊢;rw[l];exact h
 refine aq 102 func214 Z<|Q 2<|eD m (aL q) λ_ _ a=>eD a (ep r) λ_ _ a=>GO a 12 [1801]<|cZ (kD q (z.ag (mF 3)) a.ao) ?_;rintro _ _⟨_,c,_,_,rfl,g,a⟩;have d:=a.ak;have a:=g.ll;have a:1<=(df q.v).length/\(df q.v).length<=2:=jF _;refine JO 5<|bF [0,4,5,16,17] (γ:=Nat×aR×SO) (λ⟨i,A,R0,v,K,Qz⟩ R=>⟨[(18,I i),(7,.slice R0 v K)],Qz::R,c-i,i<=c/\(A=((df q.v).take i).flatMap (x.L.gZ q.v r))/\aF ca 3 1 R0 v K A Qz⟩) (0,[],none,0,0,[]) ⟨(X.bU d),Y,by rfl,(aF.nil (enc:=ca) (E:=3) (sz:=1) fR)⟩ ?_;rintro⟨i,A,R0,v,K,Qz⟩ V _⟨d,a,C,G⟩;have a:=G.ll;refine Q 6<|CD ((i:Int)<c) (λc=>RC 12 [.slice R0 v K]<|(by have a:=(d.ap [1,1,1]);have hz:A=x.L.oe q.v r:=(by unfold gg.oe;rw[C,acj Y]);exact⟨_,_,_,_,rfl,by rw[<-hz];exact G,a⟩)) λc=>Q 6<|i9 g (i:Int) i λn _ _ P a _=>have g:=T n (ab8 P);eB d (a.up 1 Z) 0 (I n)<|JO 8 ?_;have h1:=(d.pick 4 Z);refine cZ (xQ (hx.ag (mF 4)) h1.aQ) ?_;rintro _ _⟨rfl,a⟩;have o:=a.ak;refine JO 3<|cD (n<(x.aP.n:Int)) (λL=>Q 5<|aU (i:Int) 1<|bX 2 Z<|⟨(i+1,A,R0,v,K,Qz),od,bR,(o.az [4,4,4,4]),Y,(by rw[r9 (f:=(x.L.gZ q.v r)) P,<-C,show(x.L.gZ q.v r) n=[] from by unfold gg.gZ;rw[aca (show n<x.L.ni from L)],acR]),G⟩) λL=>Q 3 ?_;have c:n∈x.L.od:=g.2.2.resolve_left Y;have a:(x.aP.n:Int)<=n/\n<(x.aP.n:Int)+x.aV.n:=by have h:=hg.xI n c;simp only[gv.L,acf] at h;omega
 have a:=(aci.1 (p n c).1).1;have a:=(aci.1 (p n c).2).1;have a:=hg.xR c;have a:=hg.sK c;have a:=hg.Xm;obtain⟨t,a,a,a,g,k⟩:=bl.elem hx.first n;have S:x.L.first n=t:=ace ((p n c).1.symm.trans a);obtain⟨m,a,a,a,d,l⟩:=bl.elem hx.count n;have J:x.L.gy n=m:=ace ((p n c).2.symm.trans a);refine bJ o [] (fb 3 0 8 1<|fq 6 0 (g.up 5 Z)<|fb 10 0 8 1<|fq 13 0 (g.up 5 Z)<|fb 17 0 9 1<|fq 20 0 (d.up 5 Z)<|fn) [0,1,2,4,7,8,9,11,14,15,16,18,3,5,6,22,10,12,13,17,19,20,21,23] λ_ u=>wV 12<|wL 0<|wI k<|wL 1<|wV 1<|wL 2<|wI k<|wL 3<|wL 4<|wI l<|wL 5<|mD t m<|wV 1<|wN<|GX u 9 [4]<|cB q.eS (λh0=>(by have N:A.length<=40000:=XN;refine Q 4 ?_;have a:=(u.pick 1 Z);refine cZ (wu t (t+m) G Y a) ?_;rintro _ _⟨p,o,l,k,rfl,d,g⟩;have c:=d.len;have a:=d.le;simp only[acm,acX,Kg] at c;refine JO 6<|aU (i:Int) 1<|bX 2 Z ?_;have B:(x.L.gZ q.v r) n=CP t (t+m):=(by unfold gg.gZ CP;rw[ab9 (show ¬n<x.L.ni from L),aca (show q.v.eS=true from h0),S,J,show(t+m-t)=m by omega]);exact⟨(i+1,(A++CP t (t+m)),p,o,l,k),od,bR,(g.az [4,4,4,3]),Y,U6,d⟩)) λh0=>?_;refine Q 4<|cZ (nj (hx.ag (mF 4)) n Y Y u.aQ) ?_;rintro _ _⟨w0,rfl,c,a⟩;have l:=a.ak;have a:=hx.jK w0 (ab8 c);have Oz:=Aa c;refine JO 5<|cE w0.aB 4 (λD=>(by have N:A.length<=40000:=XN;refine Q 3<|dP (t+m) 1<|ec l #[I ((t+m)-1)] 3 λ_ _ a=>dM (nb:=8) a G 2 (bl.dO (enc:=ca) (sz:=1) (xs:=[((t+m)-1)]) fR 1 0 Z Z Z Y) underlying22 (i:=Tryz.t3) kr fR λa c g _ k d=>JO 6<|aU (i:Int) 1<|bX 2 Z ?_;have B:(x.L.gZ q.v r) n=[t+m-1]:=(by unfold gg.gZ;rw[ab9 (show ¬n<x.L.ni from L),ab9 (show ¬q.v.eS=true from h0),aca (show(x.L.st n).aB=4 by rw[Oz];exact D),S,J]);exact⟨(i+1,(A++[((t+m)-1)]),a,(v+1),c,g),od,bR,((d.az [5,5,5,5]).aj 4 Z),Y,U6,k⟩)) λD=>?_;refine GC l 7 [0]<|oJ hx.eU n λc _ _ J a=>lv l (a.up 5 Z) 0 [I c.w,I c.h,I c.aG]<|aI l zeroValue109 λ_ _ a=>bP a 0 Z [I c.w,I c.h,I c.aG] λ_ a=>JO 3<|bJ a [14] (fb 0 5 0 18<|fb 2 0 0 1<|fb 4 0 1 1<|fb 8 1 4 1<|fb 12 1 5 1<|fb 13 4 0 4<|fn) [1,3,5,6,7,9,10,11,16,0,2,4,8,12,13,14,15] λ_ a=>wV 9<|wG 0 18<|wL 18<|wL 19<|wL 20<|wL 21<|wG 22 4<|wO Z<|cZ (Lx q c.w c.h x.tw x.th r (z.ag (mF 6)) a.ao) ?_;rintro _ _⟨_,l,_,_,rfl,z,a⟩;have o:=a.ak;have a:=z.ll;refine nA<|wV 1<|wN<|have N:A.length<=40000:=XN;have a:=Js (s:=q.v) (w:=c.w) (h:=c.h) (tw:=x.tw) (th:=x.th) (r:=r);have a:=(z).len;JX 2<|bF [0,4,5,16,17,18,10,69,70] (γ:=Nat×aR×SO) (λ⟨j,m,d,u,g,k⟩ R=>⟨[(71,I j),(7,.slice d u g)],k::R,l-j,j<=l/\(m=A++((lz q.v c.w c.h x.tw x.th r).take j).map (t+·))/\aF ca 3 1 d u g m k⟩) (0,A,R0,v,K,Qz) ⟨(o.pick 3 Z),Y,by simp,G⟩ ?_;rintro⟨j,m,d,u,g,k⟩ V _⟨o,a,v,p⟩;have a:=p.ll;exact Q 6<|CD ((j:Int)<l) (λa=>Q 8<|aU (i:Int) 1<|bX 2 Z<|(by have B:(x.L.gZ q.v r) n=(lz q.v c.w c.h x.tw x.th r).map (t+·):=(by unfold gg.gZ;rw[ab9 (show ¬n<x.L.ni from L),ab9 (show ¬q.v.eS=true from h0),ab9 (show ¬(x.L.st n).aB=4 by rw[Oz];exact D),S,show eg x.L.sh n=c from u9 J];rfl);exact⟨(i+1,m,d,u,g,k),od,bR,((o.az [6,6,6,3]).ap [4,4]),Y,(by rw[r9 (f:=(x.L.gZ q.v r)) P,<-C,B,v,acj Y]),p⟩)) λa=>Q 6<|i9 z (j:Int) j λk _ _ n a _=>eB o (a.up 1 Z) 0 (I k)<|JO 3<|have a:m.length<=A.length+j:=(by rw[v];exact mo);have a:0<=k/\k<16384:=(by have h:=uk.1 (aen.1 (ab8 (show(lz q.v c.w c.h x.tw x.th r)[j]?=some k from n))).1;have:=Zs c.w c.h x.tw x.th;omega);Q 4<|aU t k<|ec o #[I (t+k)] 3 λ_ _ a=>dM (nb:=8) a p 1 (bl.dO (enc:=ca) (sz:=1) (xs:=[(t+k)]) fR 1 0 Z Z Z Y) underlying22 (i:=Tryz.t3) kr fR λa g d _ l c=>JO 5<|aU (j:Int) 1<|bX 2 Z<|⟨(j+1,(m++[(t+k)]),a,(u+1),g,d),od,bR,(c.aj 0 Z),Y,(by rw[bY n,acB,<-acx,<-v];rfl),l⟩
end Go.Proofs.YtmfebppagcejcaaGreat
namespace Go.Proofs.YtmfebppagcejcaaGreat
open Go.Shelf
def Tryz.EH:Go.Shelf.Ren:=⟨fun|53=>238|64=>280|63=>279|78=>323|79=>324|70=>314|71=>315|72=>316|73=>317|74=>318|75=>319|59=>320|76=>321|77=>322|88=>345|89=>346|90=>347|91=>348|92=>349|68=>350|96=>355|n=>n,fun|22=>22|23=>3|3=>3|51=>239|0=>0|67=>369|69=>238|4=>4|61=>364|60=>363|44=>59|5=>5|9=>9|75=>379|79=>383|83=>390|84=>218|n=>n,fun|n=>n⟩
def Tryz.JA:Go.Proofs.SlLaysN.n53 Tryz.prog Tryz.EH:={
 mixed:=by kernel_rfl
 f53:=⟨Tryz.f238.name,by decide,Tryz.func238.trans (congrArg some (by kernel_rfl))⟩
 f59:=⟨Tryz.f320.name,by decide,Tryz.func320.trans (congrArg some (by kernel_rfl))⟩
 f63:=⟨Tryz.f279.name,by decide,Tryz.func279.trans (congrArg some (by kernel_rfl))⟩
 f64:=Tryz.func280.trans (congrArg some (by kernel_rfl))
 f68:=⟨Tryz.f350.name,by decide,Tryz.func350.trans (congrArg some (by kernel_rfl))⟩
 f70:=⟨Tryz.f314.name,by decide,Tryz.func314.trans (congrArg some (by kernel_rfl))⟩
 f71:=⟨Tryz.f315.name,by decide,Tryz.func315.trans (congrArg some (by kernel_rfl))⟩
 f72:=⟨Tryz.f316.name,by decide,Tryz.func316.trans (congrArg some (by kernel_rfl))⟩
 f73:=⟨Tryz.f317.name,by decide,Tryz.func317.trans (congrArg some (by kernel_rfl))⟩
 f74:=⟨Tryz.f318.name,by decide,Tryz.func318.trans (congrArg some (by kernel_rfl))⟩
 f75:=⟨Tryz.f319.name,by decide,Tryz.func319.trans (congrArg some (by kernel_rfl))⟩
 f76:=⟨Tryz.f321.name,by decide,Tryz.func321.trans (congrArg some (by kernel_rfl))⟩
 f77:=⟨Tryz.f322.name,by decide,Tryz.func322.trans (congrArg some (by kernel_rfl))⟩
 f78:=Tryz.func323.trans (congrArg some (by kernel_rfl))
 f79:=Tryz.func324.trans (congrArg some (by kernel_rfl))
 f88:=⟨Tryz.f345.name,by decide,Tryz.func345.trans (congrArg some (by kernel_rfl))⟩
 f89:=Tryz.func346.trans (congrArg some (by kernel_rfl))
 f90:=Tryz.func347.trans (congrArg some (by kernel_rfl))
 f91:=⟨Tryz.f348.name,by decide,Tryz.func348.trans (congrArg some (by kernel_rfl))⟩
 f92:=⟨Tryz.f349.name,by decide,Tryz.func349.trans (congrArg some (by kernel_rfl))⟩
 f96:=⟨Tryz.f355.name,by decide,Tryz.func355.trans (congrArg some (by kernel_rfl))⟩
 t0:=Tryz.underlying0
 a0:=Tryz.isAgg0
 z0:=Tryz.sizeOf0
 v0:=Tryz.zeroValue0
 t3:=Tryz.underlying3
 a3:=Tryz.isAgg3
 z3:=Tryz.sizeOf3
 v3:=Tryz.zeroValue3
 t4:=Tryz.underlying4
 a4:=Tryz.isAgg4
 z4:=Tryz.sizeOf4
 v4:=Tryz.zeroValue4
 t5:=Tryz.underlying5
 a5:=Tryz.isAgg5
 z5:=Tryz.sizeOf5
 v5:=Tryz.zeroValue5
 t9:=Tryz.underlying9
 a9:=Tryz.isAgg9
 z9:=Tryz.sizeOf9
 v9:=Tryz.zeroValue9
 t22:=Tryz.underlying22
 a22:=Tryz.isAgg22
 z22:=Tryz.sizeOf22
 v22:=Tryz.zeroValue22
 t23:=Tryz.underlying3
 a23:=Tryz.isAgg3
 z23:=Tryz.sizeOf3
 v23:=Tryz.zeroValue3
 t44:=Tryz.underlying59
 a44:=Tryz.isAgg59
 z44:=Tryz.sizeOf59
 v44:=Tryz.zeroValue59
 t51:=Tryz.underlying239
 a51:=Tryz.isAgg239
 z51:=Tryz.sizeOf239
 v51:=Tryz.zeroValue239
 t60:=Tryz.underlying363
 a60:=Tryz.isAgg363
 z60:=Tryz.sizeOf363
 v60:=Tryz.zeroValue363
 t61:=Tryz.underlying364
 a61:=Tryz.isAgg364
 z61:=Tryz.sizeOf364
 v61:=Tryz.zeroValue364
 t67:=Tryz.underlying369
 a67:=Tryz.isAgg369
 z67:=Tryz.sizeOf369
 v67:=Tryz.zeroValue369
 t69:=Tryz.underlying238
 a69:=Tryz.isAgg238
 z69:=Tryz.sizeOf238
 v69:=Tryz.zeroValue238
 t75:=Tryz.underlying379
 a75:=Tryz.isAgg379
 z75:=Tryz.sizeOf379
 v75:=Tryz.zeroValue379
 t79:=Tryz.underlying383
 a79:=Tryz.isAgg383
 z79:=Tryz.sizeOf383
 v79:=Tryz.zeroValue383
 t83:=Tryz.underlying390
 a83:=Tryz.isAgg390
 z83:=Tryz.sizeOf390
 v83:=Tryz.zeroValue390
 t84:=Tryz.underlying218
 a84:=Tryz.isAgg218
 z84:=Tryz.sizeOf218
 v84:=Tryz.zeroValue218}
def Tryz.Fo:Go.Shelf.Ren:=⟨fun|43=>262|n=>n,fun|22=>22|23=>3|3=>3|4=>4|0=>0|n=>n,fun|n=>n⟩
def Tryz.JN:Go.Proofs.SlLaysN.n43 Tryz.prog Tryz.Fo:={
 mixed:=by kernel_rfl
 f43:=⟨Tryz.f262.name,by decide,Tryz.func262.trans (congrArg some (by kernel_rfl))⟩
 t0:=Tryz.underlying0
 a0:=Tryz.isAgg0
 z0:=Tryz.sizeOf0
 v0:=Tryz.zeroValue0
 t3:=Tryz.underlying3
 a3:=Tryz.isAgg3
 z3:=Tryz.sizeOf3
 v3:=Tryz.zeroValue3
 t4:=Tryz.underlying4
 a4:=Tryz.isAgg4
 z4:=Tryz.sizeOf4
 v4:=Tryz.zeroValue4
 t22:=Tryz.underlying22
 a22:=Tryz.isAgg22
 z22:=Tryz.sizeOf22
 v22:=Tryz.zeroValue22
 t23:=Tryz.underlying3
 a23:=Tryz.isAgg3
 z23:=Tryz.sizeOf3
 v23:=Tryz.zeroValue3
 i23:=by kernel_rfl}
end Go.Proofs.YtmfebppagcejcaaGreat
namespace Go.Proofs.YtmfebppagcejcaaGreat
open Go Go.E Go.Proofs.Tryz
set_option maxRecDepth 100000
set_option maxHeartbeats 2000000
section
variable{W w:World}{H:af}{F:cj}
def Gg{b:Nat}{x:gv}(hx:gv.Ok [H] x){a:cf}{n k:Nat}{s:aR}{D:af}(g:aF ca 3 1 a n k s D)(l part:Int)(r:dY)(hg:jz x.L)(c:x.aV.n=x.aV.l.length)(q:l∈x.L.od)(B:Ei r)(c:n<=1000000)(d:X W w (D::aW b (gx x).toArray 255::H::F)):
 Calls prog 215 #[Pt b 0,I l,I part,.agg (ep r).toArray,.slice a n k] w λe c=>∃(t:Task) (Zz:af),e=.returned (.agg (cw t).toArray)/\Task.Ok [Zz] t/\t.v=x.L.bE l part r s/\X W c (Zz::aW b (gx x).toArray 255::H::F):=by
 have c:=hx.aP.ll;have c:=hx.aV.ll;have c:=hx.bi.ll;have c:=hx.order.ll;have c:=hx.eU.ll;have c:=hx.first.ll;have c:=hx.count.ll;have R0:1<=(x.aP.n:Int)/\(x.aP.n:Int)+x.aV.n<=16:=by have h:=hg.ni;simp only[gv.L,acf] at h;omega
 have c:(x.eU.n:Int)=x.aP.n+(x.aV.n:Int):=by have h:=hg.len;simp only[gv.L,acf] at h;omega
 have c:lh x.tw x.th:=hg.tl;unfold lh at c;have c:(x.aP.n:Int)<=l/\l<(x.aP.n:Int)+x.aV.n:=by have h:=hg.xI l q;simp only[gv.L,acf] at h;omega
 have c:=B;unfold Ei at c;refine aq 46 func215 Z<|Q 2<|eD d (ep r) λ_ _ c=>aI c zeroValue143 λ_ _ w0=>JO 6<|have c:=(w0.pick 3 Z);cZ (nj (hx.ag (mF 3)) l Y Y c.aQ) ?_;rintro _ _⟨j,rfl,d,c⟩;have f:=c.ak;have A:=hx.jK j (ab8 d);have v:=Aa d;refine aI f zeroValue115 λ_ _ c=>bP c 0 Z (aL j) λ_ d=>er ?_;have c:=hg.src q j.a (by rw[v];exact DL _);simp only[gv.L,acf] at c;refine JX 4<|have c:=(d.pick 4 Z);cZ (Go.E.DJ Tryz.JA g c Y) ?_;rintro _ _⟨_,rfl,p,c⟩;refine JO 2<|eQ c 1 [0,2,8,10,11] (γ:=Nat×Nat×af) (λ⟨o,m,u⟩ R=>⟨[(12,Pt o 0)],aW o #[I l,I part,I r.x0,I r.y0,I r.x1,I r.y1,.slice a m k,I (r.y1-r.y0),I 0] 143::u::R,0,aF ca 3 1 a m k (Go.Lib.compact (s.mergeSort λx y=>decide (x<=y))) u⟩) ?_ ?_
 ·refine kA c [4,11,12] (fb 2 4 0 4<|fb 6 4 3 1<|fb 8 4 1 1<|fn) (pS [0,1,3,5,7,2,6,8,9]<| .fk 4 11 (pS [10]<| .ef 11<| .ef 12<| .fin) (.ef 4<|pS [10]<| .ef 12<| .fin)) λ_ h0=>qV 5<|qG 0 4<|qL 4<|qL 5<|YT r.y1 r.y0<|qF ?_ ?_
  ·exact qO Z<|cZ (Go.E.D6 Tryz.JN p h0)<|(by rintro _ _⟨d,f,rfl,g,c⟩;exact nZ c [4,4,4]<|qV 1<|qO Z<|aI c zeroValue143 λh1 _ c=>nZ c [5,5,5]<|qO Z<|bP c 0 Z [I l,I part,I r.x0,I r.y0,I r.x1,I r.y1,.slice a d k,I (r.y1-r.y0),I 0] λ_ c=>nA<|qN<|mI 0 Z<|⟨(h1,d,f),bR,c,g⟩)
  refine qO Z<|aI h0 zeroValue143 λi _ c=>nZ c [5,5,5]<|qO Z<|have d:=(c.pick 1 Z);cZ (Go.E.D6 Tryz.JN p d) ?_;rintro _ _⟨d,f,rfl,g,c⟩;exact nZ c [5,5,5]<|qV 1<|qO Z<|bP c 1 Z [I l,I part,I r.x0,I r.y0,I r.x1,I r.y1,.slice a d k,I (r.y1-r.y0),I 0] λ_ c=>nA<|qN<|mI 0 Z<|⟨(i,d,f),bR,(c.pick 1 Z),g⟩
 rintro⟨o,m,u⟩ V _⟨g,z⟩;refine Q 7<|CE part 2 (λp=>Q 3<|(by obtain⟨f,c,c,o,c,d⟩:=bl.elem hx.eU j.a;refine bJ g [11,13] (fb 0 2 0 18<|fb 4 3 7 1<|fb 6 2 1 1<|fq 9 1 (c.up 6 Z)<|fb 10 5 0 4<|fn) [1,2,3,5,0,4,6,7,8,9,10,11,12,13] λ_ c=>wV 4<|wG 0 18<|wL 18<|wL 19<|wI d<|wV 1<|wL 20<|wG 21 4<|wO Z<|cS (AO j f.h r (A.ag (mF 6)) (by have h:=hg.CV q;rw[v] at h;exact h) B c.ao) λ_ c=>nZ c [3,2]<|wV 1<|wO Z<|eX c 0 Z 8 (I (tE j.v f.h r)) λ_ c=>nA<|wN<|GX c 4 [900]<|bP c 4 Z [I l,I part,I r.x0,I r.y0,I r.x1,I r.y1,.slice a m k,I (r.y1-r.y0),I (tE j.v f.h r)] λ_ c=>my 3 Z<|hD (vs:=[.agg #[I l,I part,I r.x0,I r.y0,I r.x1,I r.y1,.slice a m k,I (r.y1-r.y0),I (tE j.v f.h r)]]) Z (.cons (.cell _ _ _ _ kr (nW c 4 0 [I l,I part,I r.x0,I r.y0,I r.x1,I r.y1,.slice a m k,I (r.y1-r.y0),I (tE j.v f.h r)] (isAgg143 _) (sizeOf143 _) Z Z Z)) .nil) ?_;have d:=(c.ap [0,1,2,2]);have i:Task.v (⟨l,part,r.x0,r.y0,r.x1,r.y1,⟨a,m,k,(Go.Lib.compact (s.mergeSort λx y=>decide (x<=y)))⟩,(r.y1-r.y0),(tE j.v f.h r)⟩:Task)=x.L.bE l part r s:=(by unfold gg.bE;rw[v,show eg x.L.sh j.v.a=f from u9 o,<-zg,ab9 p];rfl);exact⟨(⟨l,part,r.x0,r.y0,r.x1,r.y1,⟨a,m,k,(Go.Lib.compact (s.mergeSort λx y=>decide (x<=y)))⟩,(r.y1-r.y0),(tE j.v f.h r)⟩:Task),_,rfl,⟨(z.dt (O:=[u]) 0 Z)⟩,i,d⟩)) λp=>?_;refine Q 2<|eX g 0 Z 7 (I 1) λ_ d=>JO 3 ?_;obtain⟨g,c,c,o,c,f⟩:=bl.elem hx.eU j.a;exact bJ d [11,13] (fb 0 2 0 18<|fb 4 3 7 1<|fb 6 2 1 1<|fq 9 1 (c.up 6 Z)<|fb 10 5 0 4<|fn) [1,2,3,5,0,4,6,7,8,9,10,11,12,13] λ_ c=>wV 4<|wG 0 18<|wL 18<|wL 19<|wI f<|wV 1<|wL 20<|wG 21 4<|wO Z<|cS (AO j g.h r (A.ag (mF 6)) (by have h:=hg.CV q;rw[v] at h;exact h) B c.ao) λ_ c=>nZ c [3,2]<|wV 1<|wO Z<|eX c 0 Z 8 (I (tE j.v g.h r)) λ_ c=>nA<|wN<|GX c 4 [900]<|bP c 4 Z [I l,I part,I r.x0,I r.y0,I r.x1,I r.y1,.slice a m k,I 1,I (tE j.v g.h r)] λ_ c=>my 3 Z<|hD (vs:=[.agg #[I l,I part,I r.x0,I r.y0,I r.x1,I r.y1,.slice a m k,I 1,I (tE j.v g.h r)]]) Z (.cons (.cell _ _ _ _ kr (nW c 4 0 [I l,I part,I r.x0,I r.y0,I r.x1,I r.y1,.slice a m k,I 1,I (tE j.v g.h r)] (isAgg143 _) (sizeOf143 _) Z Z Z)) .nil)<|have d:=(c.ap [0,1,2,2]);have i:Task.v (⟨l,part,r.x0,r.y0,r.x1,r.y1,⟨a,m,k,(Go.Lib.compact (s.mergeSort λx y=>decide (x<=y)))⟩,1,(tE j.v g.h r)⟩:Task)=x.L.bE l part r s:=(by unfold gg.bE;rw[v,show eg x.L.sh j.v.a=g from u9 o,<-zg,aca p];rfl);⟨(⟨l,part,r.x0,r.y0,r.x1,r.y1,⟨a,m,k,(Go.Lib.compact (s.mergeSort λx y=>decide (x<=y)))⟩,1,(tE j.v g.h r)⟩:Task),_,rfl,⟨(z.dt (O:=[u]) 0 Z)⟩,i,d⟩
def L8{b:Nat}{x:gv}(hx:gv.Ok [H] x)(k:Int)(hg:jz x.L)(M:x.aV.n=x.aV.l.length)(hW:WX x)(n:k∈x.L.od)(a:x.L.dU<=4096)(j:X W w (aW b (gx x).toArray 255::H::F)):
 Calls prog 148 #[Pt b 0,I k] w λe f=>∃(d:cf) (a c:Nat) (zs:List Task) (Zz G:af),e=.returned (.slice d a c)/\aF cw 143 9 d a c zs Zz/\(∀z∈zs,Task.Ok [G] z)/\zs.map Task.v=x.L.aN k/\X W f (Zz::G::aW b (gx x).toArray 255::H::F):=by
 let a:=hx.aP.ll;let a:=hx.aV.ll;let a:=hx.bi.ll;let R0:=hx.order.ll;let a:=hx.eU.ll;let a:=hx.first.ll;let a:=hx.count.ll;let a:1<=(x.aP.n:Int)/\(x.aP.n:Int)+x.aV.n<=16:=by let h:=hg.ni;simp only[gv.L,acf] at h;omega
 let a:(x.eU.n:Int)=x.aP.n+(x.aV.n:Int):=by let h:=hg.len;simp only[gv.L,acf] at h;omega
 let a:lh x.tw x.th:=hg.tl;unfold lh at a;let a:(x.aP.n:Int)<=k/\k<(x.aP.n:Int)+x.aV.n:=by let h:=hg.xI k n;simp only[gv.L,acf] at h;omega
 let C1:iD (x.L.cut k).w (x.L.cut k).h x.tw x.th:=hg.RH n;let f:=hg.Ig n;let a:=hg.sK n;let d:=hg.xR n;let c:=hg.PF n;let a:=hg.Xm;unfold mK at c;let a:=(aci.1 (hW k n).1).1;obtain⟨nx,L⟩:∃z,z=(bI (x.L.cut k).w (x.L.cut k).h x.tw x.th):=⟨_,rfl⟩;obtain⟨ny,K⟩:∃z,z=(eW (x.L.cut k).w (x.L.cut k).h x.tw x.th):=⟨_,rfl⟩;obtain⟨g,T⟩:∃z,z=x.L.first k:=⟨_,rfl⟩;let P:x.L.nx k=nx:=by rw[L];rfl
 let B:x.L.ny k=ny:=by rw[K];rfl
 rw[P,B] at f;rw[<-T] at d;refine aq 132 func148 Z<|Q 9<|cZ (nj (hx.ag (mF 0)) k Y Y j.aQ) ?_;rintro _ _⟨o,rfl,c,a⟩;let h1:=a.ak;let K0:=hx.jK o (ab8 c);let D:=Aa c;refine aI h1 zeroValue115 λl0 _ a=>bP a 0 Z (aL o) λ_ c=>er<|let J1:∀y∈df o.v,0<=y/\y<x.L.ni+(x.L.ss.length:Int)/\(y<x.L.ni\/y∈x.L.od):=λy hy=>hg.src n y (by rw[D];exact hy);JX 5<|let a:=(c.pick 1 Z);cZ (JF (hx.ag (mF 1)) k hg M n a.aQ) ?_;rintro _ _⟨rfl,a⟩;refine aI (X.ak a) zeroValue109 λm0 _ a=>bP a 0 Z [I ((x.L.cut k).w),I ((x.L.cut k).h),I ((x.L.cut k).aG)] λ_ a=>JO 3<|bJ a [12] (fb 1 0 0 1<|fb 3 0 1 1<|fb 7 1 4 1<|fb 11 1 5 1<|fn) [0,2,4,5,6,8,9,10,1,3,7,11,12,13,14,15,16,17] λ_ a=>wV 8<|wL 0<|wL 1<|wL 2<|wL 3<|wO Z<|cS (uh ((x.L.cut k).w) ((x.L.cut k).h) x.tw x.th a.ao) λ_ d=>?_;rw[<-L,<-K];refine nA<|wV 1<|wV 1<|wV 1<|wV 2<|wN<|GX d 8 [1]<|oJ hx.first k λt _ _ a c=>let e:g=t:=T.trans (ace ((hW k n).1.symm.trans a));eB d (c.up 3 Z) 0 (I t)<|JO 8<|eQ d 0 [0,1,5,6,7,8,9] (γ:=Int) (λS R=>⟨[(10,I S)],R,0,S=x.L.part k⟩) ?_ ?_
 ·exact GC d 7 [2]<|CE o.aB 4 (λa=>lq 1 Z<|⟨0,bR,d,(by unfold gg.part;rw[D,ab9 (show ¬o.v.aB=4 from a)])⟩) λa=>lq 3 Z<|⟨1,bR,d,(by unfold gg.part;rw[D,aca (show o.v.aB=4 from a)])⟩
 rintro S V _⟨a,E1⟩;refine Q 10<|ei nx ny<|JO 4<|bF [0,1,5,6,7,8,9,10,51] (γ:=Nat×(List Task)×cf×Nat×Nat×af×af) (λ⟨i,zs,c,N,d,J,C⟩ R=>⟨[(52,I i),(11,.slice c N d)],C::J::R,((nx*ny).toNat)-i,i<=(nx*ny).toNat/\(zs.map Task.v=(gJ i).map (x.L.Gt k))/\(zs.length=i)/\aF cw 143 9 c N d zs J/\(∀z∈zs,Task.Ok [C] z)⟩) (0,[],none,0,0,[],[]) ⟨(X.bU (X.bU a)),Y,by rfl,by rfl,(aF.nil (enc:=cw) (E:=143) (sz:=9) fR),pG⟩ ?_;rintro⟨i,zs,c,N,d,J,C⟩ V _⟨u,a,U,a,Oz,Xz⟩;let a:=Oz.ll;refine Q 6<|cD ((i:Int)<(nx*ny)) (λa=>?_) (λa=>?_);rotate_left
 ·refine Q 7<|let A:i=(nx*ny).toNat:=(by omega);GC u 6 [4]<|CE o.aB 4 (λp=>RC 9 [.slice c N d]<|(by let a:=((u.pick 1 Z).ap [2,3]);let hz:zs.map Task.v=x.L.aN k:=(by unfold gg.aN;rw[D,ab9 (show ¬o.v.aB=4 from p),P,B,acR,U,A]);exact⟨_,_,_,_,_,_,rfl,Oz,Xz,hz,a⟩)) λp=>GC u 5 [4]<|aI u zeroValue141 λ_ _ a=>bP a 0 Z [I 0,I 0,I o.cb,I 1] λ_ c=>JO 2 ?_;let a:=hg.CV n;rw[D] at a;unfold uY at a;simp only[aA.v] at a;let Qz:Ei (⟨0,0,o.cb,1⟩:dY):=by unfold Ei;dsimp only;omega
  let a:x.L.gy k=nx*ny+1:=by unfold gg.gy;rw[D,aca (show o.v.aB=4 from p),P,B]
  refine bJ c [10,11,12,13] (fb 3 0 0 4<|fn) [0,1,2,4,5,6,7,8,9,3,10,11,12,13,14] λ_ a=>wV 7<|vz nx ny<|mD t (nx*ny)<|wG 0 4<|wO Z<|cZ (wu t (t+(nx*ny)) (aF.nil (enc:=ca) (E:=3) (sz:=1) fR) Y (X.bU a)) ?_;rintro _ _⟨_,_,_,_,rfl,d,f⟩;let c:=d.len;let a:=d.le;simp only[acm,acX,Kg] at c;refine nZ f [1]<|wO Z<|let a:=(f.az [5,1]);cZ (Gg (hx.ag (mF 5)) d k 2 (⟨0,0,o.cb,1⟩:dY) hg M n Qz Y a.JG) ?_;rintro _ _⟨g,j,rfl,v,l,a⟩;refine nA<|wO Z<|ec a.cq (cw g).toArray 143 λ_ _ a=>nA<|wO Z<|dM (nb:=88) a Oz 5 (bl.dO (enc:=cw) (sz:=9) (xs:=[g]) fR 1 0 Z Z Z Y) underlying43 (i:=Tryz.t143) kr fR λa d f _ m c=>nA<|wV 1<|wN<|RX 8 [.slice a (N+1) d] ?_;let a:=((c.az [4,2,5]).ap [3,4,4,4]);let c:X W _ (f::(j++C)::aW b (gx x).toArray 255::H::F):=X.perm (show X W _ (f::j::C::aW b (gx x).toArray 255::H::F) from a) (by simp);let a:g.v=x.L.CZ k:=by rw[l];unfold gg.CZ CP;rw[D,P,B,<-T,e,show(t+nx*ny-t).toNat=(nx*ny).toNat by omega];rfl
  let hz:(zs++[g]).map Task.v=x.L.aN k:=by unfold gg.aN;rw[D,aca (show o.v.aB=4 from p),P,B,acB,U,A];simp only[acC,adA];rw[a]
  exact⟨_,_,_,_,_,_,rfl,m,(λz hz=>by
   rcases acn.1 hz with h|h
   ·exact(Xz z h).ag mS
   ·simp only[ack] at h;subst h;exact v.ag mS),hz,c⟩
 refine Q 10<|eQ u 0 [0,1,5,6,7,8,9,10,51,52,11,12] (γ:=Nat) (λg R=>⟨[(13,Pt g 0)],aW g #[I ((gF ((x.L.cut k).w) ((x.L.cut k).h) x.tw x.th (i:Int)).x0),I ((gF ((x.L.cut k).w) ((x.L.cut k).h) x.tw x.th (i:Int)).y0),I ((gF ((x.L.cut k).w) ((x.L.cut k).h) x.tw x.th (i:Int)).x1),I ((gF ((x.L.cut k).w) ((x.L.cut k).h) x.tw x.th (i:Int)).y1)] 141::R,0,True⟩) ?_ ?_
 ·refine kA u [13,17,18] (fb 1 2 0 1<|fb 3 2 1 1<|fb 7 3 4 1<|fb 11 3 5 1<|fn) (pS [0,2,4,5,6,8,9,10,12,1,3,7,11]<| .fk 13 17 (pS [14,15,16]<| .ef 17<| .ef 18<|pS [19]<| .fin) (.ef 13<|pS [14,15,16]<| .ef 18<|pS [19]<| .fin)) λ_ d=>qV 9<|qL 0<|qL 1<|qL 2<|qL 3<|qF ?_ ?_
  ·exact qO Z<|cS (IP ((x.L.cut k).w) ((x.L.cut k).h) x.tw x.th (i:Int) C1 ⟨Y,by rw[<-L,<-K];omega⟩ d.ao) λ_ a=>nA<|qV 1<|qV 1<|qV 1<|qO Z<|aI a zeroValue141 λc _ a=>nA<|VA
  exact qO Z<|aI d zeroValue141 λc _ w0=>nZ w0 [3,3,4,4]<|qO Z<|cS (IP ((x.L.cut k).w) ((x.L.cut k).h) x.tw x.th (i:Int) C1 ⟨Y,by rw[<-L,<-K];omega⟩ w0.ao) λ_ a=>nA<|qV 1<|qV 1<|qV 1<|VA
 rintro g V a⟨f,_⟩;refine Q 1 ?_;obtain⟨r,c⟩:∃z:dY,z=(gF (x.L.cut k).w (x.L.cut k).h x.tw x.th (i:Int)):=⟨_,rfl⟩;let d:X W a (aW g (ep r).toArray 141::C::J::aW m0 #[I ((x.L.cut k).w),I ((x.L.cut k).h),I ((x.L.cut k).aG)] 109::aW b (gx x).toArray 255::aW l0 (aL o).toArray 115::H::F):=by rw[c];exact f
 let Qz:Ei r:=by rw[c];exact(Iu C1 Y (by rw[<-L,<-K];omega)).1
 let B:x.L.CO k (i:Int)=r:=by rw[c];rfl
 refine GC d 4 [1805,400]<|let a:=(d.pick 4 Z);cZ (Kt (hx.ag (mF 5)) (q:=o) (K0.ag (mF 5)) r hg M hW J1 a.aQ) ?_;rintro _ _⟨K,h0,J,L,rfl,v,a⟩;let u:=a.cq;let c:=v.len;let a:=v.le;let a:=vq (s:=o.v) (r:=r) hg (df o.v) (λy hy=>(J1 y hy).2.2);let a:=jF o.v;unfold gg.oe at c;refine JO 3<|eQ u 1 [0,1,5,6,7,8,9,10,51,52,11,13] (γ:=cf×Nat×Nat×aR×af) (λ⟨f,a,d,c,g⟩ R=>⟨[(15,.slice f a d)],g::R,0,aF ca 3 1 f a d c g/\c=(x.L.oe o.v r)++x.L.own k (i:Int)/\a<=1000000⟩) ?_ ?_;rotate_left
 ·rintro⟨f,a,d,c,g⟩ V _⟨c,d,m,a⟩;let a:=d.ll;refine GC c 7 [402]<|let a:=(c.az [1,1]);cZ (Gg (hx.ag (mF 5)) d k S r hg M n Qz Y a.JG) ?_;rintro _ _⟨c,l,rfl,A,j,a⟩;refine ec (X.cq a) (cw c).toArray 143 λ_ _ a=>dM (nb:=88) a Oz 5 (bl.dO (enc:=cw) (sz:=9) (xs:=[c]) fR 1 0 Z Z Z Y) underlying43 (i:=Tryz.t143) kr fR λf g d _ p a=>VG 2 Z<|let n:c.v=x.L.Gt k (i:Int):=(by rw[j];unfold gg.Gt;rw[B,<-E1,D,<-m]);JX 3<|aU (i:Int) 1<|bX 2 Z ?_;let j:=((a.az [6,6,6,4]).ap [4,5])
  exact⟨(i+1,(zs++[c]),f,(N+1),g,d,(l++C)),od,bR,(X.perm (cs':=(l++C)::(d::aW m0 #[I ((x.L.cut k).w),I ((x.L.cut k).h),I ((x.L.cut k).aG)] 109::aW b (gx x).toArray 255::aW l0 (aL o).toArray 115::H::F)) (show X W _ (l::C::d::aW m0 #[I ((x.L.cut k).w),I ((x.L.cut k).h),I ((x.L.cut k).aG)] 109::aW b (gx x).toArray 255::aW l0 (aL o).toArray 115::H::F) from j) (by simp)),Y,(by rw[acB,U,sQ];simp only[acC,adA];rw[n]),mo,p,(by
   intro z hz;rcases acn.1 hz with h|h
   ·exact(Xz z h).ag mS
   ·simp only[ack] at h;subst h;exact(A.ag mS))⟩
 refine GC u 7 [6]<|CE o.aB 5 (λn=>lq 1 Z<|(by let m:x.L.own k (i:Int)=[]:=(by unfold gg.own;rw[D,ab9 (show ¬o.v.aB=5 from n)]);exact⟨(K,h0,J,(x.L.oe o.v r),L),bR,u,v,Px,Y⟩)) λn=>Q 2<|let p:(i:Int).tmod nx=(i:Int)%nx:=aef Y;Q 3<|Dw (i:Int) nx<|JO 3<|CD (((i:Int).tmod nx)>0) (λl=>Q 9<|CD ((i:Int)>=nx) (λa=>lq 1 Z<|(by let m:x.L.own k (i:Int)=([]:aR)++([]:aR):=(by unfold gg.own;rw[D,aca (show o.v.aB=5 from n),P,<-T,e,ab9 (by rw[<-p];omega),ab9 Y]);exact⟨(K,h0,J,(x.L.oe o.v r),L),bR,u,v,Px,Y⟩)) λa=>Q 4<|aU t (i:Int)<|bf<|dP (t+(i:Int)) nx<|ec u #[I ((t+(i:Int))-nx)] 3 λ_ _ a=>dM (nb:=8) a v 1 (bl.dO (enc:=ca) (sz:=1) (xs:=[((t+(i:Int))-nx)]) fR 1 0 Z Z Z Y) underlying22 (i:=Tryz.t3) kr fR λc d g _ j a=>bX 2 Z<|(by let f:=(a.aj 0 Z);let m:x.L.own k (i:Int)=([]:aR)++[t+(i:Int)-nx]:=(by unfold gg.own;rw[D,aca (show o.v.aB=5 from n),P,<-T,e,ab9 (by rw[<-p];omega),aca Y]);exact⟨(c,(h0+1),d,((x.L.oe o.v r)++[((t+(i:Int))-nx)]),g),bR,f,j,Px,Y⟩)) λl=>?_;exact Q 4<|aU t (i:Int)<|dP (t+(i:Int)) 1<|ec u #[I ((t+(i:Int))-1)] 3 λ_ _ a=>dM (nb:=8) a v 1 (bl.dO (enc:=ca) (sz:=1) (xs:=[((t+(i:Int))-1)]) fR 1 0 Z Z Z Y) underlying22 (i:=Tryz.t3) kr fR λc d g _ l f=>JO 10<|CD ((i:Int)>=nx) (λj=>lq 1 Z<|(by let a:=(f.aj 0 Z);let m:x.L.own k (i:Int)=[t+(i:Int)-1]++([]:aR):=(by unfold gg.own;rw[D,aca (show o.v.aB=5 from n),P,<-T,e,aca (by rw[<-p];omega),ab9 Y]);exact⟨(c,(h0+1),d,((x.L.oe o.v r)++[((t+(i:Int))-1)]),g),bR,a,l,Px,Y⟩)) λj=>Q 4<|aU t (i:Int)<|bf<|dP (t+(i:Int)) nx<|ec f #[I ((t+(i:Int))-nx)] 3 λ_ _ a=>dM (nb:=8) a l 2 (bl.dO (enc:=ca) (sz:=1) (xs:=[((t+(i:Int))-nx)]) fR 1 0 Z Z Z Y) underlying22 (i:=Tryz.t3) kr fR λc d g _ j a=>bX 2 Z<|let f:=(a.ap [0,0]);let m:x.L.own k (i:Int)=[t+(i:Int)-1]++[t+(i:Int)-nx]:=(by unfold gg.own;rw[D,aca (show o.v.aB=5 from n),P,<-T,e,aca (by rw[<-p];omega),aca Y]);⟨(c,((h0+1)+1),d,(((x.L.oe o.v r)++[((t+(i:Int))-1)])++[((t+(i:Int))-nx)]),g),bR,f,j,Px,Y⟩
end
section
variable{W w:World}{H:af}{F:cj}
variable{i:Nat}{x:Int}
def zi{l:aR}(h:l[i]?=some x):l=l.take i++x::l.drop (i+1):=by
 grind[List.getElem?_eq_some_iff,List.take_append_drop,List.drop_eq_getElem_cons]
def AK{L:gg}(g:jz L){d b c:Int}{fl f:aR}(h:L.od[i]?=some d)(j:∀n∈L.od.take i,fl[n.toNat]?=some (L.first n)/\f[n.toNat]?=some (L.gy n))(a:b=((L.od.take i).map L.gy).sum)(hc:c=L.gy d)
 (h1:d.toNat<fl.length) (a:d.toNat<f.length):∀n∈L.od.take (i+1),(fl.set d.toNat b)[n.toNat]?=some (L.first n)/\(f.set d.toNat c)[n.toNat]?=some (L.gy n):=by
 intro n b;let f:=g.rk (zi h);rw[aeS,h,aeL] at b;rcases acn.1 b with b|b
 ·let a:n≠d:=λe=>f.2 (e▸b);let a:=g.xI n (acL b);let a:=g.xI d (ab8 h);let a:=g.ni;rw[acV,ab9 Y,acV,ab9 Y];exact j n b
 simp_all
theorem nv{f:Int->Int}{l:aR}(h:l[i]?=some x):((l.take (i+1)).map f).sum=((l.take i).map f).sum+f x:=by
 exact Bf
def vQ{L:gg}(g:jz L)(hx:x∈L.od):((L.aN x).length:Int)=L.gy x:=by
 let h:=(g.Ig hx).2.2
 grind[gg.aN,gg.gy,List.length_append,List.length_map,jG]
def vG{L:gg}(g:jz L):∀l:aR,(∀x∈l,x∈L.od)->((l.flatMap L.aN).length:Int)=(l.map L.gy).sum
 |[],_=>rfl
 |x::l,h=>by
  rw[ac8,acm,acC,ady,<-vG g l (λy hy=>h y (by simp[hy])),<-vQ g (h x (by simp))];rfl
def qR{L:gg}(g:jz L)(i:Nat):0<=((L.od.take i).map L.gy).sum/\((L.od.take i).map L.gy).sum<=L.dU:=by
 let h1:=tM (f:=L.gy) (L.od.take i) (λy hy=>by let:=g.sK (acL hy);omega);let a:=tM (f:=L.gy) (L.od.drop i) (λy hy=>by let:=g.sK (acM hy);omega)
 grind[gg.dU,List.take_append_drop]
def Tu{L:gg}(g:jz L){m:aY}(h:L.sh[i]?=some m):mK m:=by
 let a:=(aci.1 h).1;let:=g.sz (i:Int) (by omega) (by let:=g.len;omega)
 grind[eg]
def pY{L:gg}(g:jz L):∀i:Nat,i<=L.sh.length->0<=((L.sh.take i).map λm=>m.w*m.h).sum/\((L.sh.take i).map λm=>m.w*m.h).sum<=4096*i
 |0,_=>by simp
 |i+1,a=>by
  let a:=pY g i (by omega);let hx:L.sh[i]?=some L.sh[i]:=aco (by omega);let hz:=Tu g hx;unfold mK at hz;let a:0<=L.sh[i].w*L.sh[i].h:=ac9 (by omega) (by omega);exact Bf
def rl(L:gg)(n:Int):Int:=if(L.st n).aB=4 then(L.st n).cb*(L.gy n-1) else 0
def JT{L:gg}(g:jz L){n:Int}(hn:n∈L.od):0<=rl L n/\rl L n<=2097152:=by
 unfold rl;split
 ·exact(by rename_i hk;let hb:=g.CV hn;unfold uY at hb;let hc:=g.sK hn;let:=el (a:=(L.st n).cb) (b:=L.gy n-1) (A:=128) (B:=16384) (by omega) (by omega);omega)
 ·omega
def tB{L:gg}(g:jz L):∀i:Nat,i<=L.od.length->0<=((L.od.take i).map (rl L)).sum/\((L.od.take i).map (rl L)).sum<=2097152*i
 |0,_=>by simp
 |i+1,a=>by
  let a:=tB g i (by omega);let hx:L.od[i]?=some L.od[i]:=aco (by omega);let hz:=JT g (ab8 hx)
  grind[nv]
def EW(p:eK)(tw:Int)(th:Int)(hp:eK.Ok [H] p)(a:p.aa.n<=1000000/\p.ae.n<=1000000/\p.aK.n<=1000000)(d:X W w (H::F)):
 Calls prog 147 #[.agg (bG p).toArray,I tw,I th] w λe a=>(¬jQ p.v tw th=0/\e=.returned (.tuple #[.pointer none,I (jQ p.v tw th)])/\X W a (H::F))\/(jQ p.v tw th=0/\∃(b:Nat) (x:gv) (G:af),e=.returned (.tuple #[Pt b 0,I 0])/\gv.Ok [G++H] x/\x.L=rj p.v tw th/\jz x.L/\x.aV.n=x.aV.l.length/\WX x/\x.L.dU<=4096/\X W a (aW b (gx x).toArray 255::(G++H)::F)):=by
 have a:=hp.aa.le;have c:=hp.aa.len;have a:=hp.ae.le;have e:=hp.ae.len;have a:=hp.aK.ll;have m:p.v.aa.length=p.aa.n:=by simp[eK.v,c]
 have a:p.v.ae.length=p.ae.n:=by simp[eK.v,e]
 refine aq 120 func147 Z<|Q 2<|eD d (bG p) λ_ _ a=>GO a 7 [400]<|cZ (tL p (hp.ag (mF 1)) od a.ao) ?_;rintro _ _⟨Oz,g,N,U,rfl,o0,a⟩;have c:=a.ak;have a:=o0.ll;refine JO 16<|CN ((db p.v).2.2) 0 (λs=>RC 9 [.pointer none,I ((db p.v).2.2)]<|(by have a:=(c.ap [0,0]);have k:jQ p.v tw th=(db p.v).2.2:=(by unfold jQ;rw[ab9 s]);exact .inl ⟨by rw[k];omega,by rw[k];rfl,a⟩)) λs=>GC c 5 [401]<|cZ (BD p (hp.ag (mF 2)) od c.ao) ?_;rintro _ _⟨h0,B,K,S,rfl,Xz,a⟩;have d:=a.ak;have a:=Xz.ll;refine VG 6 Z<|have R0:=ry (j:=p.v) s;have c:=R0.od;have a:(db p.v).1.length=p.aa.n+p.ae.n:=(by have h:=R0.len;omega);have a:(ez p.v).1.length=p.ae.n:=(by have h:=R0.ln;omega);have a:=R0.nn;JX 8<|CN ((ez p.v).2) 0 (λa=>RC 9 [.pointer none,I ((ez p.v).2)]<|absurd c Y) λa=>Q 8<|sD 39 (tw<1) (λc=>RO 22 [.pointer none,I 2]<|Yl) λc=>je<|sD 43 (tw>64) (λa=>RO 18 [.pointer none,I 2]<|(by have h1:=(d.ap [0,0,0]);have k:jQ p.v tw th=2:=(by unfold jQ;rw[aca s,ab9 (by unfold lh;omega)]);exact .inl ⟨by rw[k];omega,by rw[k];rfl,h1⟩)) λa=>je<|sD 47 (th<1) (λc=>RO 14 [.pointer none,I 2]<|Yl) λc=>JO 5<|cD (th>64) (λc=>RC 8 [.pointer none,I 2]<|Yl) λc=>Q 3 ?_;have y:lh tw th:=by unfold lh;omega
 obtain⟨L,C⟩:∃z:gg,z=(⟨(p.aa.n:Int),p.ae.l.map aA.v,(db p.v).1,(ez p.v).1,tw,th⟩:gg):=⟨_,rfl⟩;have D:L=rj p.v tw th:=by rw[C];unfold rj;rw[m];rfl
 have hg:jz L:=by rw[D];exact OY R0 y
 have P:L.od=(ez p.v).1:=by rw[C]
 have a:L.sh=(db p.v).1:=by rw[C]
 have Y0:jz (⟨(p.aa.n:Int),p.ae.l.map aA.v,(db p.v).1,(ez p.v).1,tw,th⟩:gg):=by rw[<-C];exact hg
 have Qz:L.tw=tw/\L.th=th:=by rw[C];exact⟨rfl,rfl⟩
 have a:=hg.ni;have a:(L.ss.length:Int)=p.ae.n:=by rw[C];simp[e]
 have a:L.ni=(p.aa.n:Int):=by rw[C]
 refine GC d 7 [402]<|eD d [.slice p.aa.a p.aa.n p.aa.k,.slice p.ae.a p.ae.n p.ae.k,.slice p.aK.a p.aK.n p.aK.k,I p.ba,I tw,I th,.slice h0 B K,.slice Oz g N,nS,nS] λv _ a=>JO 8<|gC (kl:=.i64) (kc:=.i64) (enc:=ca) (sz:=1) (nb:=8) a 0 g (g:Int) (rfl:(g:Int)=g) underlying22 (i:=Tryz.t3) kr fR λu q _ r a=>cG<|eX a 1 Z 8 (.slice (At u 0) g g) λ_ a=>JO 7<|gC (kl:=.i64) (kc:=.i64) (enc:=ca) (sz:=1) (nb:=8) a 0 g (g:Int) (rfl:(g:Int)=g) underlying22 (i:=Tryz.t3) kr fR λt c _ d a=>cG<|eX a 2 Z 9 (.slice (At t 0) g g) λ_ a=>JO 16<|bF [1,2,12,70,71] (γ:=Nat×Int×aR×af×aR×af) (λ⟨i,A,fl,o,M,m⟩ R=>⟨[(13,I A),(72,I i)],o::m::R,(p.ae.n-i),i<=p.ae.n/\aF ca 3 1 (At u 0) g g fl o/\aF ca 3 1 (At t 0) g g M m/\(∀n∈L.od.take i,fl[n.toNat]?=some (L.first n)/\M[n.toNat]?=some (L.gy n))/\A=((L.od.take i).map L.gy).sum⟩) (0,0,(List.replicate g 0),q,(List.replicate g 0),c) ⟨(a.az [0,1]),Y,r,d,(by intro n d;simp at d),(by simp)⟩ ?_;rintro⟨i,A,fl,o,M,m⟩ V _⟨q,a,E,J,hF,T⟩;have a:=E.len;have a:=J.len;have a:=E.le;have a:=J.le;have a:=qR hg i;have a:=hg.Xm;refine Q 6<|cD ((i:Int)<B) (λa=>?_) (λa=>?_);rotate_left
 ·refine Q 12<|cD (A>4096) (λc=>RC 8 [.pointer none,I 13]<|(by have a:=(q.ap [0,0,0,0,0,0]);have k:jQ p.v tw th=13:=(by unfold jQ;rw[aca s,aca y,ab9 (by rw[<-D];exact UM)]);exact .inl ⟨by rw[k];omega,by rw[k];rfl,a⟩)) λc=>RC 10 [Pt v 0,I 0]<|have c:L.dU<=4096:=UM;have k:jQ p.v tw th=0:=(by unfold jQ;rw[aca s,aca y,aca (by rw[<-D];exact c)]);have a:=((q.az [4,4,4]).aj 5 Z);have r:X W _ (aW v #[.slice p.aa.a p.aa.n p.aa.k,.slice p.ae.a p.ae.n p.ae.k,.slice p.aK.a p.aK.n p.aK.k,I p.ba,I tw,I th,.slice h0 B K,.slice Oz g N,.slice (At u 0) g g,.slice (At t 0) g g] 255::((S++U++o++m)++H)::F):=X.perm (show X W _ (aW v #[.slice p.aa.a p.aa.n p.aa.k,.slice p.ae.a p.ae.n p.ae.k,.slice p.aK.a p.aK.n p.aK.k,I p.ba,I tw,I th,.slice h0 B K,.slice Oz g N,.slice (At u 0) g g,.slice (At t 0) g g] 255::S::U::o::m::H::F) from a) (by simp);have a:gv.Ok [(S++U++o++m)++H] (⟨p.aa,p.ae,p.aK,p.ba,tw,th,⟨h0,B,K,((ez p.v).1)⟩,⟨Oz,g,N,((db p.v).1)⟩,⟨(At u 0),g,g,fl⟩,⟨(At t 0),g,g,M⟩⟩:gv):=⟨(hp.aa.ag mS),(λz hz=>(hp.gf z hz).ag mS),(hp.ae.ag mS),(λz hz=>(hp.dC z hz).ag mS),(hp.aK.ag mS),(Xz.rd (λp hp=>qo)),(o0.rd (λp hp=>qo)),(E.rd (λp hp=>qo)),(J.rd (λp hp=>qo))⟩;.inr ⟨k,v,(⟨p.aa,p.ae,p.aK,p.ba,tw,th,⟨h0,B,K,((ez p.v).1)⟩,⟨Oz,g,N,((db p.v).1)⟩,⟨(At u 0),g,g,fl⟩,⟨(At t 0),g,g,M⟩⟩:gv),(S++U++o++m),rfl,a,?_,Y0,e.symm,?_,?_,r⟩
  ·rw[<-D,C];rfl
  ·exact λn d=>by have h:=hF n (by rw[acj (by rw[P];omega),P];exact d);rw[C] at h;exact h
  ·rw[C] at c;exact c
 refine Q 6<|i9 Xz (i:Int) i λr _ _ S d _=>?_;have c:r∈L.od:=by rw[P];exact ab8 S
 have a:=hg.xI r c;have a:=hg.sK c;have o:=hg.RH c;have s:=hg.Ig c;have m:=hg.PF c;unfold mK at m;refine eB q (d.up 3 Z) 0 (I r)<|JO 7<|have a:=(q.pick 2 Z);cZ (JF (x:=(⟨p.aa,p.ae,p.aK,p.ba,tw,th,⟨h0,B,K,((ez p.v).1)⟩,⟨Oz,g,N,((db p.v).1)⟩,⟨(At u 0),g,g,fl⟩,⟨(At t 0),g,g,M⟩⟩:gv)) ⟨(hp.aa.fl 5),(λz hz=>(hp.gf z hz).ag (mF 5)),(hp.ae.fl 5),(λz hz=>(hp.dC z hz).ag (mF 5)),(hp.aK.fl 5),(bl.ao (Xz.dt 2 (by rfl))),(bl.ao (o0.dt 3 (by rfl))),(bl.ao (E.dt 0 (by rfl))),(bl.ao (J.dt 1 (by rfl)))⟩ r Y0 e.symm (show r∈(ez p.v).1 from P▸c) a.aQ) ?_;rintro _ _⟨rfl,a⟩;have k:=a.ak;obtain⟨d,c⟩:∃z:aY,z=L.cut r:=⟨_,rfl⟩;rw[show(gv.L (⟨p.aa,p.ae,p.aK,p.ba,tw,th,⟨h0,B,K,((ez p.v).1)⟩,⟨Oz,g,N,((db p.v).1)⟩,⟨(At u 0),g,g,fl⟩,⟨(At t 0),g,g,M⟩⟩:gv)).cut r=d from by rw[c,C];rfl];rw[<-c] at m;rw[<-c,Qz.1,Qz.2] at o;refine aI k zeroValue109 λ_ _ a=>bP a 0 Z [I d.w,I d.h,I d.aG] λ_ a=>GO a 10 [0,0]<|cS (uh d.w d.h tw th a.ao) λ_ a=>VG 6 Z ?_;have y:L.nx r=(bI d.w d.h tw th)/\L.ny r=(eW d.w d.h tw th):=by unfold gg.nx gg.ny;rw[<-c,Qz.1,Qz.2];exact⟨rfl,rfl⟩
 rw[y.1,y.2] at s;refine JX 5<|ei (bI d.w d.h tw th) (eW d.w d.h tw th)<|JO 8<|have c:=(a.pick 1 Z);cZ (nj (x:=(⟨p.aa,p.ae,p.aK,p.ba,tw,th,⟨h0,B,K,((ez p.v).1)⟩,⟨Oz,g,N,((db p.v).1)⟩,⟨(At u 0),g,g,fl⟩,⟨(At t 0),g,g,M⟩⟩:gv)) ⟨(hp.aa.fl 6),(λz hz=>(hp.gf z hz).ag (mF 6)),(hp.ae.fl 6),(λz hz=>(hp.dC z hz).ag (mF 6)),(hp.aK.fl 6),(bl.ao (Xz.dt 3 (by rfl))),(bl.ao (o0.dt 4 (by rfl))),(bl.ao (E.dt 1 (by rfl))),(bl.ao (J.dt 2 (by rfl)))⟩ r (show(p.aa.n:Int)<=r/\r<(p.aa.n:Int)+p.ae.n by omega) (show p.aa.n<=1000/\p.ae.n<=1000 by omega) c.aQ) ?_;rintro _ _⟨u,rfl,c,a⟩;have K:=a.ak;replace c:p.ae.l[(r-(p.aa.n:Int)).toNat]?=some u:=c;have a:=hp.dC u (ab8 c);have D:(⟨(p.aa.n:Int),p.ae.l.map aA.v,(db p.v).1,(ez p.v).1,tw,th⟩:gg).st r=u.v:=Ii (cg (f:=aA.v) c);refine JO 4<|CE u.aB 4 (λw0=>Q 3<|(by have B:((bI d.w d.h tw th)*(eW d.w d.h tw th))=L.gy r:=(by unfold gg.gy;rw[show L.st r=u.v from by rw[C];exact D,ab9 (show ¬u.v.aB=4 from w0),y.1,y.2]);obtain⟨o,a,a,m,a,c,g⟩:=aF.elem E r;obtain⟨s,a,a,t,a,k,q⟩:=aF.elem J r;refine bJ K [13,15] (fb 3 0 8 1<|fb 8 0 9 1<|fn) [0,1,2,4,5,6,7,9,10,11,3,8,12,13,14,15] λ_ a=>wV 10<|wL 0<|wL 1<|wI c<|wO Z<|fj a E g 2 r.toNat 0 o A m (I A) [I A] sizeOf3 λ_ m o a=>nA<|wI k<|wO Z<|fj a J q 3 r.toNat 0 s ((bI d.w d.h tw th)*(eW d.w d.h tw th)) t (I ((bI d.w d.h tw th)*(eW d.w d.h tw th))) [I ((bI d.w d.h tw th)*(eW d.w d.h tw th))] sizeOf3 λ_ g k a=>nA<|wN<|JX 4<|aU A ((bI d.w d.h tw th)*(eW d.w d.h tw th))<|JO 5<|aU (i:Int) 1<|bX 2 Z ?_;have c:=((a.az [3,3]).aj 3 Z);have v:L.od[i]?=some r:=(by rw[P];exact S);exact⟨(i+1,(A+((bI d.w d.h tw th)*(eW d.w d.h tw th))),(fl.set ((r).toNat) A),m,(M.set ((r).toNat) ((bI d.w d.h tw th)*(eW d.w d.h tw th))),g),od,bR,c,Y,o,k,(AK hg v hF T B Y Y),(by rw[nv v,<-T,<-B])⟩)) λw0=>?_;refine Q 2<|aU ((bI d.w d.h tw th)*(eW d.w d.h tw th)) 1<|JO 4 ?_;have B:(((bI d.w d.h tw th)*(eW d.w d.h tw th))+1)=L.gy r:=by unfold gg.gy;rw[show L.st r=u.v from by rw[C];exact D,aca (show u.v.aB=4 from w0),y.1,y.2]
 obtain⟨o,a,a,m,a,c,g⟩:=aF.elem E r;obtain⟨s,a,a,t,a,k,q⟩:=aF.elem J r;exact bJ K [13,15] (fb 3 0 8 1<|fb 8 0 9 1<|fn) [0,1,2,4,5,6,7,9,10,11,3,8,12,13,14,15] λ_ a=>wV 10<|wL 0<|wL 1<|wI c<|wO Z<|fj a E g 2 r.toNat 0 o A m (I A) [I A] sizeOf3 λ_ m o a=>nA<|wI k<|wO Z<|fj a J q 3 r.toNat 0 s (((bI d.w d.h tw th)*(eW d.w d.h tw th))+1) t (I (((bI d.w d.h tw th)*(eW d.w d.h tw th))+1)) [I (((bI d.w d.h tw th)*(eW d.w d.h tw th))+1)] sizeOf3 λ_ g k a=>nA<|wN<|JX 4<|aU A (((bI d.w d.h tw th)*(eW d.w d.h tw th))+1)<|JO 5<|aU (i:Int) 1<|bX 2 Z<|have c:=((a.az [3,3]).aj 3 Z);have v:L.od[i]?=some r:=(by rw[P];exact S);⟨(i+1,(A+(((bI d.w d.h tw th)*(eW d.w d.h tw th))+1)),(fl.set ((r).toNat) A),m,(M.set ((r).toNat) (((bI d.w d.h tw th)*(eW d.w d.h tw th))+1)),g),od,bR,c,Y,o,k,(AK hg v hF T B Y Y),(by rw[nv v,<-T,<-B])⟩
def Sm(p:eK)(tw:Int)(th:Int)(hp:eK.Ok [H] p)(a:p.aa.n<=1000000/\p.ae.n<=1000000/\p.aK.n<=1000000)(f:X W w (H::F)):
 Calls prog 85 #[.agg (bG p).toArray,I tw,I th] w λe d=>∃(c:cf) (a b:Nat) (zs:List Task) (Zz G:af),e=.returned (.tuple #[.slice c a b,I (jQ p.v tw th)])/\aF cw 143 9 c a b zs Zz/\(∀z∈zs,Task.Ok [G] z)/\zs.map Task.v=mz p.v tw th/\X W d (Zz::G::H::F):=by
 let a:=hp.aa.ll;let a:=hp.ae.ll;let a:=hp.aK.ll;refine aq 39 func85 Z<|Q 2<|eD f (bG p) λt _ a=>GO a 9 [400]<|sF #[.agg (bG p).toArray,I tw,I th] call147 (Calls.mono (EW (F:=[]) p tw th (hp.ag (mF 1)) Y a.ao) ?_);rintro _ _ (⟨o,rfl,c⟩|⟨o,J,k,s,rfl,g,D,d,f,j,w0,c⟩)
 ·exact⟨_,rfl,(by let b:=c.zk;exact JO 14<|cT _ (adM.2 o)<|RC 9 [nS,I (jQ p.v tw th)]<|(by let a:=(b.aj 0 Z);let b:X W _ ([]::[]::H::F):=X.bU (X.bU a);exact⟨none,0,0,[],_,_,rfl,aF.nil fR,(λz hz=>gO),by unfold mz;rw[ab9 o];rfl,b⟩))⟩
 ·refine⟨_,rfl,?_⟩;obtain⟨B,n⟩:∃z:af,z=s++((aW t (bG p).toArray 41::H::F):cj).flatten:=⟨_,rfl⟩;rw[<-n] at g;let h0:=c;rw[<-n] at h0;let a:=g.aP.ll;let a:=g.aV.ll;let a:=g.bi.ll;let a:=g.order.ll;let a:=g.eU.ll;let a:=g.first.ll;let a:=g.count.ll;let hg:=d;let A:=f;let y:=j;let x:=w0;refine GO h0 34 [0]<|bF [8,26,27] (γ:=Nat×(List Task)×cf×Nat×Nat×af×af) (λ⟨i,zs,c,R0,b,f,r⟩ R=>⟨[(28,I i),(10,.slice c R0 b)],r::f::R,k.order.n-i,i<=k.order.n/\(zs.map Task.v=(k.L.od.take i).flatMap k.L.aN)/\((zs.length:Int)=((k.L.od.take i).map k.L.gy).sum)/\aF cw 143 9 c R0 b zs f/\(∀z∈zs,Task.Ok [r] z)⟩) (0,[],none,0,0,[],[]) ⟨(X.bU (X.bU h0)),Y,by rfl,(by simp),(aF.nil (enc:=cw) (E:=143) (sz:=9) fR),pG⟩ ?_;rintro⟨i,zs,c,R0,b,f,r⟩ V d⟨j,a,u,C,q,v⟩;let a:=q.ll;refine Q 6<|CD ((i:Int)<k.order.n) (λm=>RC 13 [.slice c R0 b,I 0]<|(by let b:=((j.pick 1 Z).aj 2 Z);let c:X W d (f::r::s::aW t (bG p).toArray 41::H::F):=(by let a:=b;rw[n] at a;exact X.perm a xi);let h1:=(c.ap [2,2]);let hz:zs.map Task.v=mz p.v tw th:=(by unfold mz;rw[aca o,<-D];unfold gg.all;rw[u,acj (by show k.order.l.length<=_;omega)]);exact⟨_,_,_,_,_,_,by rw[o];rfl,q,v,hz,h1⟩)) λm=>Q 6<|kQ g.order i λd _ _ o b=>?_;let f:d∈k.L.od:=ab8 o;let a:=hg.sK f;let a:=qR hg i;let a:=qR hg (i+1);rw[nv (l:=k.L.od) o] at a;refine eB j (b.up 3 Z) 0 (I d)<|JO 7<|let a:=(j.pick 2 Z);cZ (L8 (g.ag (mF 2)) d hg A y f x a.aQ) ?_;rintro _ _⟨_,n,_,g,_,j,rfl,b,t,m,a⟩;let c:=a.rG;let a:=b.ll;let s:(g.length:Int)=k.L.gy d:=by rw[<-vQ hg f,<-m,acf]
  refine dM (nb:=88) c q 4 (b.dt 0 Z) underlying43 (i:=Tryz.t143) kr fR λc d b _ q a=>JO 5<|aU (i:Int) 1<|bX 2 Z ?_;let f:=((a.az [4,4,3]).aj 3 Z)
  exact⟨(i+1,(zs++g),c,(R0+n),d,b,(j++r)),od,bR,(X.perm (cs':=(j++r)::(b::aW J (gx k).toArray 255::B::[])) (show X W _ [j,r,b,(aW J (gx k).toArray 255),B] from f) (by simp)),Y,(by rw[acB,u,m,<-r9 (l:=k.L.od) o]),(by rw[acm,nv (l:=k.L.od) o,<-C,<-s];push_cast;rfl),q,(by
   intro z hz;rcases acn.1 hz with h|h
   ·exact(v z h).ag mS
   ·exact(t z h).ag mS)⟩
def Mc(p:eK)(tw:Int)(th:Int)(hp:eK.Ok [H] p)(c:p.aa.n<=1000000/\p.ae.n<=1000000/\p.aK.n<=1000000)(d:X W w (H::F)):
 Calls prog 86 #[.agg (bG p).toArray,I tw,I th] w λe c=>e=.returned (.tuple #[I (so p.v tw th),I (jQ p.v tw th)])/\X W c (H::F):=by
 have c:=hp.aa.ll;have c:=hp.ae.ll;have c:=hp.aK.ll;refine aq 73 func86 Z<|Q 2<|eD d (bG p) λD _ c=>GO c 9 [400]<|sF #[.agg (bG p).toArray,I tw,I th] call147 (Calls.mono (EW (F:=[]) p tw th (hp.ag (mF 1)) Y c.ao) ?_);rintro _ _ (⟨u,rfl,f⟩|⟨u,_,o,C,rfl,r,G,w0,g,h,k,f⟩)
 ·exact⟨_,rfl,(by have c:=f.zk;exact JO 14<|cT _ (adM.2 u)<|RC 9 [I 0,I (jQ p.v tw th)]<|⟨by unfold so;rw[ab9 u];rfl,(c.aj 0 Z)⟩)⟩
 ·refine⟨_,rfl,?_⟩;obtain⟨c,v⟩:∃z:af,z=C++((aW D (bG p).toArray 41::H::F):cj).flatten:=⟨_,rfl⟩;rw[<-v] at r;have d:=f;rw[<-v] at d;have c:=r.aP.ll;have c:=r.aV.ll;have c:=r.bi.ll;have c:=r.order.ll;have c:=r.eU.ll;have c:=r.first.ll;have c:=r.count.ll;have hg:=w0;have c:=g;have E:=h;have c:=k;refine GO d 34 [0]<|bF [8,29,30] (γ:=Nat×Int) (λ⟨i,f⟩ R=>⟨[(31,I i),(10,I f)],R,o.eU.n-i,i<=o.eU.n/\(f=((o.L.sh.take i).map λm=>m.w*m.h).sum)⟩) (0,0) ⟨d,Y,(by simp)⟩ ?_;rintro⟨i,f⟩ V _⟨h0,c,x⟩;refine Q 6<|cD ((i:Int)<o.eU.n) (λq=>Q 6<|kQ r.eU i λd _ _ h g=>(by have n:=hg.len;have k:=hg.ni;simp only[gv.L] at n k;have c:=Tu hg (show o.L.sh[i]?=some d from h);unfold mK at c;have c:=pY hg i (show i<=o.eU.l.length by omega);have c:=el (a:=d.w) (b:=d.h) (A:=128) (B:=128) Y Y;exact lv h0 (g.up 1 Z) 0 [I d.w,I d.h,I d.aG]<|aI h0 zeroValue109 λ_ _ c=>bP c 0 Z [I d.w,I d.h,I d.aG] λ_ c=>GO c 8 [0,0]<|ei d.w d.h<|aU f (d.w*d.h)<|JO 5<|aU (i:Int) 1<|bX 2 Z<|⟨(i+1,(f+(d.w*d.h))),od,bR,(c.aj 0 Z),Y,(by rw[aeS,show o.L.sh[i]?=some d from h,aeL,acB,ae8,<-x];simp)⟩)) λq=>GC h0 17 [0]<|bF [8,46,47] (γ:=Nat×Int) (λ⟨j,s⟩ R=>⟨[(48,I j),(10,I s)],R,o.order.n-j,j<=o.order.n/\(s=f+((o.L.od.take j).map (rl o.L)).sum)⟩) (0,f) ⟨h0,Y,(by simp)⟩ ?_;rintro⟨j,s⟩ V g⟨t,c,y⟩;have n:=hg.len;have k:=hg.ni;have c:=hg.ln;simp only[gv.L] at n k c;have c:=pY hg i (show i<=o.eU.l.length by omega);refine Q 6<|CD ((j:Int)<o.order.n) (λh1=>RC 13 [I s,I 0]<|(by have d:=(t.aj 0 Z);have f:X W g (C::aW D (bG p).toArray 41::H::F):=(by have c:=d;rw[v] at c;exact X.perm c xi);have c:=(f.ap [0,0]);have hz:s=so p.v tw th:=(by unfold so;rw[aca u,<-G];unfold gg.cells;rw[y,x,acj (by show o.eU.l.length<=_;omega),acj (l:=o.L.od) (by show o.order.l.length<=_;omega)];rfl);exact⟨by rw[u,<-hz];rfl,c⟩)) λh1=>Q 6<|kQ r.order j λh _ _ u f=>?_;have q:h∈o.L.od:=ab8 u;have c:=hg.sK q;have d:=hg.xI h q;have c:=hg.ni;simp only[gv.L,acf] at d c;have R0:=hg.CV q;have c:=tB hg j (show j<=o.order.l.length by omega);have c:=JT hg q;have c:=(aci.1 (E h q).2).1;refine eB t (f.up 1 Z) 0 (I h)<|JO 7<|cZ (nj (r.ag (mF 0)) h Y Y t.aQ) ?_;rintro _ _⟨g,rfl,d,c⟩;have f:=c.ak;have c:=r.jK g (ab8 d);have k:=Aa d;refine aI f zeroValue115 λ_ _ c=>bP c 0 Z (aL g) λ_ n=>GO n 9 [0]<|CE g.aB 4 (λc=>Q 4<|aU (j:Int) 1<|bX 2 Z<|⟨(j+1,s),od,bR,(n.aj 0 Z),Y,(by rw[nv (l:=o.L.od) u,show rl o.L h=0 from by unfold rl;rw[k,ab9 (show ¬g.v.aB=4 from c)],y];omega)⟩) λc=>?_;have t:rl o.L h=g.cb*(o.L.gy h-1):=by unfold rl;rw[k,aca (show g.v.aB=4 from c)];rfl
  rw[k] at R0;unfold uY at R0;simp only[aA.v] at R0;obtain⟨d,c,c,c,f,k⟩:=bl.elem r.count h;have r:o.L.gy h=d:=ace ((E h q).2.symm.trans c);have c:=el (a:=g.cb) (b:=d-1) (A:=128) (B:=16384) Y Y;exact bJ n [] (fb 2 0 15 1<|fb 6 1 9 1<|fq 9 0 (f.up 2 Z)<|fn) [0,1,3,4,5,7,2,6,8,9,10,11,12,13] λ_ c=>wV 6<|wL 0<|wL 1<|wI k<|wL 2<|vY d 1<|vz g.cb (d-1)<|mD s (g.cb*(d-1))<|wV 1<|wN<|JX 3<|aU (j:Int) 1<|bX 2 Z<|⟨(j+1,(s+(g.cb*(d-1)))),od,bR,(c.aj 0 Z),Y,(by rw[nv (l:=o.L.od) u,t,r,y];omega)⟩
def IZ{α:Type}{f:Int->List α}:∀(l:aR) (i:Nat) (z:α),(l.flatMap f)[i]?=some z->∃p x q j,l=p++x::q/\(f x)[j]?=some z/\i=(p.flatMap f).length+j
 |[],i,z,h=>sZ
 |x::l,i,z,h=>by
  rw[ac8] at h;by_cases a:i<(f x).length
  ·exact(by rw[ada a] at h;exact⟨[],x,l,i,rfl,h,by simp⟩)
  ·exact(by rw[adm (by omega)] at h;let⟨p,y,q,j,e,hz,a⟩:=IZ l _ z h;grind)
def PM{α:Type}{f:Int->List α}{p q:aR}{j:Nat}{z:α}(h:(f x)[j]?=some z):((p++x::q).flatMap f)[(p.flatMap f).length+j]?=some z:=by
 grind
section
variable{L:gg}(g:jz L)
include g
theorem J4{p q:aR}{x:Int}(e:L.od=p++x::q):((p.flatMap L.aN).length:Int)=L.first x:=by
 rw[vG g p (λy hy=>ft),(g.rk e).1]
def WJ{i:Nat}{z:eL}(h:L.all[i]?=some z):∃n j,n∈L.od/\(L.aN n)[j]?=some z/\(i:Int)=L.first n+(j:Nat):=by
 let⟨p,x,q,j,e,hz,a⟩:=IZ _ _ _ h
 grind[hz,J4]
def XO{n:Int}{j:Nat}{z:eL}(a:n∈L.od)(h:(L.aN n)[j]?=some z):L.all[(L.first n+(j:Nat)).toNat]?=some z:=by
 let⟨p,q,e⟩:=aea a;let hp:=J4 g e;let hf:=PM (f:=L.aN) (p:=p) (q:=q) h;rw[<-e] at hf;rw[show(L.first n+(j:Int)).toNat=(p.flatMap L.aN).length+j by omega];exact hf
def re{n:Int}{j:Nat}{z:eL}(a:n∈L.od)(h:(L.aN n)[j]?=some z):((j:Int)<L.nx n*L.ny n/\z=L.Gt n j)\/((L.st n).aB=4/\(j:Int)=L.nx n*L.ny n/\z=L.CZ n):=by
 let hg:=(g.Ig a).2.2;unfold gg.aN at h;by_cases a:j<(L.nx n*L.ny n).toNat
 ·rw[ada (by grind[List.length_map,jG])] at h;left;refine⟨Y,?_⟩;rw[acE] at h;let a:(gJ (L.nx n*L.ny n).toNat)[j]?=some (j:Int):=by grind[gJ]
  rw[a] at h;exact s9
 ·rw[adm (by grind[List.length_map,jG]),acf,jG] at h;by_cases a:(L.st n).aB=4
  ·exact qj
  ·rw[ab9 a] at h;simp at h
def N7{n:Int}{j:Int}(b:n∈L.od)(h0:0<=j)(h:j<L.gy n):∃z,(L.aN n)[j.toNat]?=some z/\z.cP=n:=by
 let a:=vQ g b;obtain⟨z,hz⟩:∃z,(L.aN n)[j.toNat]?=some z:=⟨_,aco (by omega)⟩;refine⟨z,hz,?_⟩;rcases re g b hz with⟨_,rfl⟩|⟨_,_,rfl⟩<;>rfl
def To{s:bc}{r:dY}{x d:Int}(hx:x<L.ni\/x∈L.od)(h:d∈L.gZ s r x):x∈L.od/\∃k,0<=k/\k<L.gy x/\d=L.first x+k:=by
 unfold gg.gZ at h;split at h
 ·simp at h
 rename_i hni;let a0:x∈L.od:=by simp_all
 refine⟨a0,?_⟩;let d0:=g.sK a0;split at h
 ·exact(by obtain⟨k,hk,rfl⟩:=acG.1 h;rw[uk] at hk;exact wS)
 split at h
 ·exact(by simp only[ack] at h;exact⟨L.gy x-1,Y,Y,Y⟩)
 rename_i hk4;obtain⟨k,hk,rfl⟩:=acG.1 h;let hk:=(aen.1 hk).1;rw[uk] at hk;refine⟨k,hk.1,?_,rfl⟩
 grind[bI,eg,gg.nx,gg.cut,eW,gg.ny,gg.gy,CS]
def LH{n y:Int}(a:n∈L.od)(hy:y∈df (L.st n))(b:y∈L.od):L.first y+L.gy y<=L.first n:=by
 let⟨p,q,e⟩:=aea a;let a:=g.Y8 p n q e y hy
 let c:y∈p:=by
  rcases a.2 with h|h
  ·let:=g.xI y b;omega
  ·exact h
 let⟨p1,p2,b⟩:=aea c;let a:L.od=p1++y::(p2++n::q):=by simp_all
 rw[(g.rk e).1,(g.rk a).1,b];let a:0<=(p2.map L.gy).sum:=tM _ (λx hx=>by let:=g.sK (show x∈L.od by simp_all);omega)
 grind
end
section
variable{L:gg}(g:jz L)
include g
def Da{i:Nat}{z:eL}(h:L.all[i]?=some z):z.cP∈L.od/\∃j:Nat,(L.aN z.cP)[j]?=some z/\(i:Int)=L.first z.cP+(j:Nat):=by
 let⟨n,j,b,hz,a⟩:=WJ g h;let e:z.cP=n:=by rcases re g b hz with⟨_,rfl⟩|⟨_,_,rfl⟩<;>rfl
 grind
def Cy{n k:Int}(b:n∈L.od)(h0:0<=k)(h:k<L.gy n):∃y,L.all[(L.first n+k).toNat]?=some y/\y.cP=n:=by
 let⟨y,hy,a⟩:=N7 g b h0 h;exact⟨y,(by let:=XO g b hy;grind),a⟩
def Ln{n d:Int}(f:n∈L.od){r:dY}(h:d∈L.oe (L.st n) r):∃y k,y∈df (L.st n)/\y∈L.od/\0<=k/\k<L.gy y/\d=L.first y+k:=by
 unfold gg.oe at h;let⟨y,hy,a⟩:=aeD.1 h;let⟨e,k,h1,c,b⟩:=To g (g.src f y hy).2.2 a;exact⟨y,k,hy,e,h1,c,b⟩
def Xc{n j d:Int}(hn:n∈L.od)(hj:0<=j/\j<L.nx n*L.ny n)(h:d∈L.own n j):(L.st n).aB=5/\∃k,0<=k/\k<j/\d=L.first n+k:=by
 unfold gg.own at h;split at h
 ·rename_i h5;refine⟨h5,?_⟩;let hg:=(g.Ig hn).1;rcases acn.1 h with h|h
  ·split at h
   ·rename_i hm
    let a0:0<j:=by
     rcases Int.lt_or_eq_of_le hj.1 with h0|h0
     ·exact h0
     ·rw[<-h0] at hm;simp at hm
    simp only[ack] at h;exact⟨j-1,Y,Y,Y⟩
   ·simp at h
  ·split at h
   ·exact(by simp only[ack] at h;exact⟨j-L.nx n,Y,Y,Y⟩)
   ·simp at h
 ·simp at h
def X4{i:Nat}{z:eL}{d:Int}(h:L.all[i]?=some z)(hd:d∈z.aX):
 (0<=d/\d<(i:Int))/\∃y,L.all[d.toNat]?=some y/\((y.cP=z.cP/\((L.st z.cP).aB=5\/z.part=2))\/y.cP=(L.st z.cP).a\/((L.st z.cP).aB=6/\y.cP=(L.st z.cP).b)):=by
 let⟨hn,j,hz,hi⟩:=Da g h
 generalize z.cP=n at hn hz hi⊢
 let e0:=g.xR hn;let f0:=(g.Ig hn).2.2;rcases re g hn hz with⟨hj,rfl⟩|⟨h4,hj,rfl⟩
 ·let b0:d∈L.oe (L.st n) (L.CO n j)++L.own n j:=vV.1 hd;rcases acn.1 b0 with h1|h1
  ·obtain⟨y,k,hy,c0,h0,hk,rfl⟩:=Ln g hn h1;let hs:=LH g hn hy c0;let hb:=g.xR c0;let⟨t,ht,a0⟩:=Cy g c0 h0 hk;refine⟨Y,t,ht,?_⟩;rw[a0];unfold df at hy;split at hy
   ·rename_i h2;simp only[acw,acW,adO] at hy;rcases hy with e|e
    ·exact .inr (.inl e)
    ·exact .inr (.inr ⟨h2.1,e⟩)
   ·exact dV
  ·exact(by obtain⟨h5,k,h0,hk,rfl⟩:=Xc g hn ⟨Y,hj⟩ h1;let d0:L.gy n=L.nx n*L.ny n:=(by unfold gg.gy;omega);let⟨t,ht,a0⟩:=Cy g hn h0 Y;grind)
 ·exact(by let b0:d∈(gJ (L.nx n*L.ny n).toNat).map (L.first n+·):=vV.1 hd;obtain⟨k,hk,rfl⟩:=acG.1 b0;rw[uk] at hk;let d0:L.gy n=L.nx n*L.ny n+1:=(by unfold gg.gy;omega);let⟨t,ht,a0⟩:=Cy g hn hk.1 Y;exact⟨Y,t,ht,.inl ⟨a0,.inr Z⟩⟩)
def SP{i:Nat}{z:eL}(h:L.all[i]?=some z):Mg z.aX:=by
 let⟨b,j,hz,a⟩:=Da g h;rcases re g b hz with⟨_,e⟩|⟨_,_,e⟩<;>(rw[e];exact Bm _)
end
section
variable{L:gg}(g:jz L)
include g
end
end
end Go.Proofs.YtmfebppagcejcaaGreat
