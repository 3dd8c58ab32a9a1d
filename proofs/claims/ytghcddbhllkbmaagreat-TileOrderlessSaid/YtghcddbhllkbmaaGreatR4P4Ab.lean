import Derived.Test.YtghcddbhllkbmaaGreatProg
import Derived.Test.YtghcddbhllkbmaaGreatR4P4Short
namespace Go.E
set_option linter.unusedVariables false
abbrev nS:Value:= .slice none 0 0
theorem rB {a b:Bool} (h:a=b):Ending.returned (.bool a)= .returned (.bool b):=congrArg (fun b=>Ending.returned (.bool b)) h
theorem bq {a b:Bool} (h:a=b:=by first|rfl|(rw [Bool.eq_iff_iff];simp only [decide_eq_true_eq,beq_iff_eq,bne_iff_ne,ne_eq,Bool.not_eq_true',decide_eq_false_iff_not,true_iff,false_iff,iff_true,iff_false,Bool.false_eq_true,Bool.and_eq_true,Bool.or_eq_true,gt_iff_lt,ge_iff_le]<;>omega)|(rw [Bool.eq_iff_iff];simp [*]<;>omega)|(simp_all;done)):a=b:=h
theorem mT {p:Prop} [Decidable p] {v:Value} (h:p) (e:v= .bool true:=by kernel_rfl):v= .bool (decide p):=e.trans (congrArg Value.bool (decide_eq_true h).symm)
theorem mF0 {p:Prop} [Decidable p] {v:Value} (h:¬p) (e:v= .bool false:=by kernel_rfl):v= .bool (decide p):=e.trans (congrArg Value.bool (decide_eq_false h).symm)
theorem mB {a:Bool} {v:Value} (b:Bool) (h:b=a) (e:v= .bool b:=by kernel_rfl):v= .bool a:=e.trans (congrArg Value.bool h)
theorem rN {α:Type} {enc:α->List Value} {sz:Nat} {cs:List Chunk} (he:∀x,(enc x).length=sz:=by intro _;rfl):RdT enc sz cs none 0 0 []:=RdT.nil he cs
theorem bs {a b:Bool} (h:a=b:=by rw [Bool.eq_iff_iff];simp_all):a=b:=h
theorem bm {a b:Bool} (h:a=b:=by rw [Bool.eq_iff_iff];simp only [decide_eq_true_eq,beq_iff_eq,bne_iff_ne,ne_eq,Bool.not_eq_true',decide_eq_false_iff_not,gt_iff_lt,ge_iff_le,Bool.and_eq_true,Bool.or_eq_true,Bool.not_eq_eq_eq_not,Bool.not_true,Bool.and_eq_false_imp,beq_eq_false_iff_ne]<;>omega):a=b:=h
section
variable {P:Program} {n:Nat} {ρ:Env} {W w:World} {cs:List Chunk} {ops:Array Oper} {rest:List Oper} {N:Env->World->Prop} {K:Exit->Env->World->Prop}
theorem cI {A:Prop} {b off:Nat} {c:Array Value} {E:TypeId} {f:Nat×Nat} {v:Value} (h:Sat W w cs) (i:Nat) (hi:cs[i]?=some [(b, .cells c E f)]:=by rfl) (hv:c[off]?=some v:=by rfl):A\/w.cell? ⟨b,off,none⟩=some v:= .inr (h.cell i hi hv)
theorem zS {K2:Exit->Env->World->Prop} {id:Nat} {l:List Oper} {y:Code} (h:OpsE P n l.toArray l (thenK (CodeE P n y K) K .normal) ρ w):OpsE P n ops [] (thenK (CodeE P n (.seq (.region id l.toArray false) y) K) K2 .normal) ρ w:=nT (sR h)
theorem zE {K2:Exit->Env->World->Prop} (h:K .ret ρ w):OpsE P n ops [] (thenK (CodeE P n .ret K) K2 .normal) ρ w:=nT (retE h)
theorem zR {N2:Env->World->Prop} {K2:Exit->Env->World->Prop} (h:K .ret ρ w):OpsE P n ops [] (thenK (CodeE P n .ret (thenK N2 K)) K2 .normal) ρ w:=nT (retE (thenK_r h))
theorem zB {N2:Env->World->Prop} {id:Nat} {K2:Exit->Env->World->Prop} (h:K .ret ρ w):OpsE P n ops [] (thenK (CodeE P n .ret (blockK id (thenK N2 K))) K2 .normal) ρ w:=nT (retE (blockK_r (thenK_r h)))
theorem zQ {K2:Exit->Env->World->Prop} {id:Nat} {l:List Oper} {y z:Code} (h:OpsE P n l.toArray l (thenK (CodeE P n y (thenK (CodeE P n z K) K)) (thenK (CodeE P n z K) K) .normal) ρ w):OpsE P n ops [] (thenK (CodeE P n (.seq (.seq (.region id l.toArray false) y) z) K) K2 .normal) ρ w:=nT (seqE (sR h))
theorem kS {id:Nat} {l:List Oper} {y:Code} {K2:Exit->Env->World->Prop} (h:OpsE P n l.toArray l (thenK (CodeE P n y K) K .normal) ρ w):CodeE P n .skip (thenK (CodeE P n (.seq (.region id l.toArray false) y) K) K2) ρ w:=kT (sR h)
theorem rE {id:Nat} {l:List Oper} (h:OpsE P n l.toArray l (K .normal) ρ w):CodeE P n (.region id l.toArray false) K ρ w:=regionE h
theorem tN {N:Env->World->Prop} (h:N ρ w):thenK N K .normal ρ w:=h
theorem tK {N:Env->World->Prop} (h:K .ret ρ w):thenK N K .ret ρ w:=h
theorem bN {id:Nat} (h:K .normal ρ w):blockK id K .normal ρ w:=h
theorem sTl {o:Oper} (hS:Sat W w cs) (i:Nat) (l:List Value) {t:TypeId} {x y:Operand} {b k:Nat} {c:Array Value} {E:TypeId} (hsz:∀w,(sizeOf t).run P w= .ok k w)
    (h:∀w',Sat W w' (cs.set i [(b, .cells l.toArray E (0,0))])->OpsE P n ops rest N ρ w')
    (ho:o.op= .store t x y:=by rfl) (hg:o.guard=none:=by rfl) (hd:o.dst=none:=by rfl) (hi:cs[i]?=some [(b, .cells c E (0,0))]:=by rfl)
    (hx:ev ρ x= .pointer (some ⟨b,0,none⟩):=by kernel_rfl) (hy:ev ρ y= .agg l.toArray:=by kernel_rfl) (hv:(Value.agg l.toArray).cells.toList=l:=by kernel_rfl) (hk:l.length=k:=by kernel_rfl)
    (h1:l.all (·.oneCell')=true:=by kernel_rfl) (hfit:Nat.ble (0+l.length) c.size=true:=by kernel_rfl) (hc':wr c 0 l=l.toArray:=by kernel_rfl):OpsE P n ops (o::rest) N ρ w:=
  sT hS i 0 (.agg l.toArray) l l.toArray hsz h ho hg hd hi hx hy hv hk h1 hfit hc'
theorem retC {fn:Func} {R:Ending->World->Prop} (hS:Sat W w cs) (i:Nat) (l:List Value) (v:Value) {t:TypeId} {k b:Nat} {c:Array Value} {E:TypeId} {f:Nat×Nat} {r1 r2:Tmp} (hag:(isAgg t).run P w= .ok true w) (hsz:(sizeOf t).run P w= .ok k w)
    (h:R (.returned (packed [.agg l.toArray,v])) w) (hr:fn.results=#[.cell r1 t, .tmp r2]:=by rfl) (h1:ρ r1= .pointer (some ⟨b,0,none⟩):=by kernel_rfl) (hi:cs[i]?=some [(b, .cells c E f)]:=by rfl) (hk:l.length=k:=by rfl)
    (hv:(c.toList.drop 0).take l.length=l:=by rfl) (h2:ρ r2=v:=by kernel_rfl):retK P fn R .ret ρ w:=
  retN (rs:=[.cell r1 t, .tmp r2]) hr (.cons (.cell _ _ _ _ h1 (lvA hS i 0 l hag hsz hi hk hv)) (.cons (.tmp _ _ h2) .nil)) h
section
variable {o:Oper} {x y:Code} {c:Operand}
theorem CD (p:Prop) [Decidable p] (h2:¬p->CodeE P n y K ρ w) (h1:p->CodeE P n x K ρ w) (hc:ev ρ c= .bool (decide p):=by kernel_rfl):CodeE P n (.cond c x y) K ρ w:=cD p h1 h2 hc
theorem SD (d:Nat) (p:Prop) [Decidable p] (h2:¬p->OpsE P n ops rest N (upd ρ d (.bool false)) w) (h1:p->OpsE P n ops rest N (upd ρ d (.bool true)) w) (hd:ρ d= .bool (decide p):=by kernel_rfl):OpsE P n ops rest N ρ w:=sD d p h1 h2 hd
theorem CDn (p:Prop) [Decidable p] (h2:¬p->CodeE P n x K ρ w) (h1:p->CodeE P n y K ρ w) (hc:ev ρ c= .bool (!(decide p)):=by kernel_rfl):CodeE P n (.cond c x y) K ρ w:=cDn p h1 h2 hc
theorem SDn (d:Nat) (p:Prop) [Decidable p] (h2:¬p->OpsE P n ops rest N (upd ρ d (.bool true)) w) (h1:p->OpsE P n ops rest N (upd ρ d (.bool false)) w) (hd:ρ d= .bool (!(decide p)):=by kernel_rfl):OpsE P n ops rest N ρ w:=sDn d p h1 h2 hd
theorem CE (a b:Int) (h2:¬(a=b)->CodeE P n y K ρ w) (h1:a=b->CodeE P n x K ρ w) (hc:ev ρ c= .bool (a==b):=by kernel_rfl):CodeE P n (.cond c x y) K ρ w:=cE a b h1 h2 hc
theorem SE (d:Nat) (a b:Int) (h2:¬(a=b)->OpsE P n ops rest N (upd ρ d (.bool false)) w) (h1:a=b->OpsE P n ops rest N (upd ρ d (.bool true)) w) (hd:ρ d= .bool (a==b):=by kernel_rfl):OpsE P n ops rest N ρ w:=sE d a b h1 h2 hd
theorem CN (a b : Int) (h2 : ¬ (a = b) -> CodeE P n x K ρ w) (h1 : a = b -> CodeE P n y K ρ w) (hc : ev ρ c = .bool (a != b) := by kernel_rfl) : CodeE P n (.cond c x y) K ρ w := cN a b h1 h2 hc
theorem SN (d : Nat) (a b : Int) (h2 : ¬ (a = b) -> OpsE P n ops rest N (upd ρ d (.bool true)) w) (h1 : a = b -> OpsE P n ops rest N (upd ρ d (.bool false)) w) (hd : ρ d = .bool (a != b) := by kernel_rfl) : OpsE P n ops rest N ρ w := sN d a b h1 h2 hd
theorem CB (t:Bool) (h2:¬(t=true)->CodeE P n y K ρ w) (h1:t=true->CodeE P n x K ρ w) (hc:ev ρ c= .bool (t):=by kernel_rfl):CodeE P n (.cond c x y) K ρ w:=cB t h1 h2 hc
theorem SB (d:Nat) (t:Bool) (h2:¬(t=true)->OpsE P n ops rest N (upd ρ d (.bool false)) w) (h1:t=true->OpsE P n ops rest N (upd ρ d (.bool true)) w) (hd:ρ d= .bool (t):=by kernel_rfl):OpsE P n ops rest N ρ w:=sB d t h1 h2 hd
theorem CBn (t:Bool) (h2:¬(t=true)->CodeE P n x K ρ w) (h1:t=true->CodeE P n y K ρ w) (hc:ev ρ c= .bool (!(t)):=by kernel_rfl):CodeE P n (.cond c x y) K ρ w:=cBn t h1 h2 hc
theorem SBn (d:Nat) (t:Bool) (h2:¬(t=true)->OpsE P n ops rest N (upd ρ d (.bool true)) w) (h1:t=true->OpsE P n ops rest N (upd ρ d (.bool false)) w) (hd:ρ d= .bool (!(t)):=by kernel_rfl):OpsE P n ops rest N ρ w:=sBn d t h1 h2 hd
end
theorem bC (p:Prop) {G:Prop} (h2:¬p->G) (h1:p->G):G:=(Classical.em p).elim h1 h2
theorem bD (p:Prop) {G:Prop} (h1:p->G) (h2:¬p->G):G:=(Classical.em p).elim h1 h2
end
theorem ssp {P:Prop} (h:P:=by (repeat' split)<;>first|rfl|(exfalso;omega)|contradiction|(exfalso;simp_all;done)|(simp_all;done)):P:=h
section
variable {α:Type} {enc:α->List Value} {sz:Nat} {a:Option Addr} {len cap:Nat} {xs:List α} {c:Chunk} {E:Nat} {P:Program} {n:Nat} {ρ:Env} {W w:World} {cs:List Chunk} {ops:Array Oper} {rest:List Oper} {N:Env->World->Prop} {o:Oper} {t:TypeId} {x y:Operand} {f:FuncId} {os:Array Operand} {ats:Array TypeId} {args:Array Value} {v:Value}
theorem mF {c:Chunk} (i:Nat) (h:cs[i]?=some c:=by rfl):∀p∈[c].flatten,p∈[cs.flatten].flatten:=mem_flat1 i h
theorem RdT.fl {c:Chunk} (h:RdT enc sz [c] a len cap xs) (i:Nat) (hi:cs[i]?=some c:=by rfl):RdT enc sz [cs.flatten] a len cap xs:=RdT.flat (h.up i hi)
theorem RdT.eN (hR:RdT enc sz cs a len cap xs) (i:Nat) (h1:i<len:=by first|omega|decide):∃x b off,xs[i]?=some x/\PtR cs b off (enc x)/\ElemAt a (i:Int) len sz b off:=RdT.elem hR (i:Int) (by omega) (by omega)
theorem OwnT.eN (hO:OwnT enc E sz a len cap xs c) (i:Nat) (h1:i<len:=by first|omega|decide):∃x b off,xs[i]?=some x/\PtR [c] b (off+i*sz) (enc x)/\ElemAt a (i:Int) len sz b (off+i*sz)/\a=some ⟨b,off,none⟩:=OwnT.elem hO (i:Int) (by omega) (by omega)
theorem sII (hR:RdT enc sz cs a len cap xs) (i:Int) (h:∀x b off,xs[i.toNat]?=some x->PtR cs b off (enc x)->OpsE P n ops rest N (put ρ o.dst (.pointer (some ⟨b,off,none⟩))) w) (h0:0<=i:=by omega) (h1:i<len:=by first|omega|decide)
    (ho:o.op= .indexAddr t x y:=by rfl) (hg:o.guard=none:=by rfl) (hd:dstOK n o.dst=true:=by rfl) (hk:okI P t sz=true:=by kernel_rfl) (hx:ev ρ x= .slice a len cap:=by kernel_rfl) (hy:ev ρ y= .int .i64 i:=by kernel_rfl):OpsE P n ops (o::rest) N ρ w:=by
  obtain ⟨E,h2,h3⟩:=okI_spec hk
  exact sIdx hR i h2 h3 h h0 h1 ho hg hd hx hy
theorem sIN (hR:RdT enc sz cs a len cap xs) (i:Nat) (h:∀x b off,xs[i]?=some x->PtR cs b off (enc x)->OpsE P n ops rest N (put ρ o.dst (.pointer (some ⟨b,off,none⟩))) w) (h1:i<len:=by first|omega|decide)
    (ho:o.op= .indexAddr t x y:=by rfl) (hg:o.guard=none:=by rfl) (hd:dstOK n o.dst=true:=by rfl) (hk:okI P t sz=true:=by kernel_rfl) (hx:ev ρ x= .slice a len cap:=by kernel_rfl) (hy:ev ρ y= .int .i64 (i:Int):=by kernel_rfl):OpsE P n ops (o::rest) N ρ w:=
  sII hR (i:Int) h (by omega) (by omega) ho hg hd hk hx hy
theorem sIO (hO:OwnT enc E sz a len cap xs c) (i:Int) (k:Nat) (h:∀x b off,xs[k]?=some x->PtR [c] b (off+k*sz) (enc x)->a=some ⟨b,off,none⟩->OpsE P n ops rest N (put ρ o.dst (.pointer (some ⟨b,off+k*sz,none⟩))) w) (h0:0<=i:=by omega) (h1:i<len:=by first|omega|decide)
    (ho:o.op= .indexAddr t x y:=by rfl) (hg:o.guard=none:=by rfl) (hd:dstOK n o.dst=true:=by rfl) (hq:okI P t sz=true:=by kernel_rfl) (hx:ev ρ x= .slice a len cap:=by kernel_rfl) (hy:ev ρ y= .int .i64 i:=by kernel_rfl) (hk:i.toNat=k:=by first|rfl|omega):OpsE P n ops (o::rest) N ρ w:=by
  subst hk
  have hl:i.toNat<xs.length:=by rw [hO.1];omega
  have hR:RdT enc sz [c] a len cap xs:=hO.rdAt 0 rfl
  obtain ⟨x',b,off,h2,h3,h4,h5⟩:=OwnT.elem hO i h0 h1
  obtain ⟨E',h6,h7⟩:=okI_spec hq
  exact stepY _ hg hd (Y_idx ho h6 h7 hx hy h4) (h x' b off h2 h3 h5)
theorem cal (hc:pureRun P (callFunc f args)=some (.enter f args)) (w:World):(callFunc f args).run P w= .ok (.enter f args) w:=pureRun_run P _ _ hc w
theorem cZ {R:Ending->World->Prop} (hq:Calls P f args w R) (h:∀e w',R e w'->onRet e fun v=>OpsE P n ops rest N (put ρ o.dst v) w')
    (ho:o.op= .call {callee:= .value (.func f),args:=os,argTypes:=ats}:=by rfl) (hg:o.guard=none:=by rfl) (hd:dstOK n o.dst=true:=by rfl) (hc:pureRun P (callFunc f args)=some (.enter f args):=by kernel_rfl) (hargs:os.map (ev ρ)=args:=by kernel_rfl):OpsE P n ops (o::rest) N ρ w:=by
  refine stepCall hg hd ?_ (hq.mono fun e w' he=>(h e w' he).ex)
  unfold execOp
  rw [ho]
  simp [resolve,ev,Deferred.ofValue,invoke,hargs,cal hc]
theorem cS (hq:Calls P f args w fun e w'=>e= .returned v/\Sat W w' [cs.flatten]) (h:∀w',Sat W w' cs->OpsE P n ops rest N (put ρ o.dst v) w')
    (ho:o.op= .call {callee:= .value (.func f),args:=os,argTypes:=ats}:=by rfl) (hg:o.guard=none:=by rfl) (hd:dstOK n o.dst=true:=by rfl) (hc:pureRun P (callFunc f args)=some (.enter f args):=by kernel_rfl) (hargs:os.map (ev ρ)=args:=by kernel_rfl):OpsE P n ops (o::rest) N ρ w:=
  cZ (hq.mono fun e w' he=>(⟨v,he.1,h w' (Sat.unflat he.2)⟩:∃v,e= .returned v/\OpsE P n ops rest N (put ρ o.dst v) w')) (fun e w' ⟨v,h1,h2⟩=>by subst h1;exact h2) ho hg hd hc hargs
theorem sBx (hS:Sat W w cs) (l:List Value) (h:∀b w',Sat W w' ([(b, .cells l.toArray t (0,0))]::cs)->OpsE P n ops rest N (put ρ o.dst (.pointer (some ⟨b,0,none⟩))) w')
    (ho:o.op= .box t x:=by rfl) (hg:o.guard=none:=by rfl) (hd:dstOK n o.dst=true:=by rfl) (hx:ev ρ x= .agg l.toArray:=by kernel_rfl):OpsE P n ops (o::rest) N ρ w:=sBox hS (.agg l.toArray) l.toArray h ho hg hd hx rfl
theorem sTk (hS:Sat W w cs) (i:Nat) {b:Nat} {c:Array Value} {E:TypeId} (hi:cs[i]?=some [(b, .cells c E (0,0))]) (l:List Value)
    (h:∀w',Sat W w' (cs.set i [(b, .cells l.toArray E (0,0))])->OpsE P n ops rest N ρ w')
    (ho:o.op= .store t x y:=by rfl) (hg:o.guard=none:=by rfl) (hd:o.dst=none:=by rfl) (hsz:pureRun P (sizeOf t)=some l.length:=by kernel_rfl)
    (hx:ev ρ x= .pointer (some ⟨b,0,none⟩):=by kernel_rfl) (hy:ev ρ y= .agg l.toArray:=by kernel_rfl) (hv:(Value.agg l.toArray).cells.toList=l:=by kernel_rfl)
    (h1:l.all (·.oneCell')=true:=by kernel_rfl) (hfit:Nat.ble (0+l.length) c.size=true:=by kernel_rfl) (hc':wr c 0 l=l.toArray:=by kernel_rfl):OpsE P n ops (o::rest) N ρ w:=
  sTl hS i l (pureRun_run P _ _ hsz) h ho hg hd hi hx hy hv rfl h1 hfit hc'
theorem tWk (hS:Sat W w cs) (i:Nat) {b:Nat} {c:Array Value} {E:TypeId} (hi:cs[i]?=some [(b, .cells c E (0,0))]) (off:Nat) (v:Value)
    (h:∀w',Sat W w' (cs.set i [(b, .cells (wr c off v.cells.toList) E (0,0))])->OpsE P n ops rest N ρ w')
    (ho:o.op= .store t x y:=by rfl) (hg:o.guard=none:=by rfl) (hd:o.dst=none:=by rfl) (hsz:pureRun P (sizeOf t)=some v.cells.toList.length:=by kernel_rfl)
    (hx:ev ρ x= .pointer (some ⟨b,off,none⟩):=by kernel_rfl) (hy:ev ρ y=v:=by kernel_rfl)
    (h1:v.cells.toList.all (·.oneCell')=true:=by kernel_rfl) (hfit:Nat.ble (off+v.cells.toList.length) c.size=true:=by kernel_rfl):OpsE P n ops (o::rest) N ρ w:=
  tW hS i off v (pureRun_run P _ _ hsz) h ho hg hd hi hx hy rfl h1 hfit
theorem retD {fn:Func} {R:Ending->World->Prop} (hS:Sat W w cs) (i:Nat) (l:List Value) (v:Value) {b:Nat} {c:Array Value} {E:TypeId} {f:Nat×Nat} {r1 r2:Tmp}
    (h:R (.returned (packed [.agg l.toArray,v])) w) (hr:fn.results=#[.cell r1 t, .tmp r2]:=by rfl) (hag:pureRun P (isAgg t)=some true:=by kernel_rfl) (hsz:pureRun P (sizeOf t)=some l.length:=by kernel_rfl) (h1:ρ r1= .pointer (some ⟨b,0,none⟩):=by kernel_rfl) (hi:cs[i]?=some [(b, .cells c E f)]:=by rfl)
    (hv:(c.toList.drop 0).take l.length=l:=by rfl) (h2:ρ r2=v:=by kernel_rfl):retK P fn R .ret ρ w:=retC hS i l v (pureRun_run P _ _ hag w) (pureRun_run P _ _ hsz w) h hr h1 hi rfl hv h2
theorem lB (hS:Sat W w cs) (i off k:Nat) {b:Nat} {c:Array Value} {E:TypeId} {f:Nat×Nat} (h:OpsE P n ops rest N (put ρ o.dst (.agg ((c.toList.drop off).take k).toArray)) w)
    (ho:o.op= .load t x:=by rfl) (hg:o.guard=none:=by rfl) (hd:dstOK n o.dst=true:=by rfl) (hi:cs[i]?=some [(b, .cells c E f)]:=by rfl) (hag:pureRun P (isAgg t)=some true:=by kernel_rfl) (hsz:pureRun P (sizeOf t)=some k:=by kernel_rfl) (hx:ev ρ x= .pointer (some ⟨b,off,none⟩):=by kernel_rfl)
    (hk:((c.toList.drop off).take k).length=k:=by kernel_rfl):OpsE P n ops (o::rest) N ρ w:=lA hS i off k (pureRun_run P _ _ hag w) (pureRun_run P _ _ hsz w) h ho hg hd hi hx hk
theorem sM (hS:Sat W w cs) (i off:Nat) (v:Value) {b:Nat} {c:Array Value} {E:TypeId} {f:Nat×Nat} (h:OpsE P n ops rest N (put ρ o.dst v) w)
    (ho:o.op= .load t x:=by rfl) (hg:o.guard=none:=by rfl) (hd:dstOK n o.dst=true:=by rfl) (hi:cs[i]?=some [(b, .cells c E f)]:=by rfl) (hag:pureRun P (isAgg t)=some false:=by kernel_rfl) (hx:ev ρ x= .pointer (some ⟨b,off,none⟩):=by kernel_rfl) (hv:c[off]?=some v:=by kernel_rfl):OpsE P n ops (o::rest) N ρ w:=
  stepY v hg hd (Y_load ho (pureRun_run P _ _ hag w) hx (hS.cell i hi hv)) h
theorem sMp (hS:Sat W w cs) {b off:Nat} {l:List Value} (hp:PtR cs b off l) (k:Nat) (v:Value) (h:OpsE P n ops rest N (put ρ o.dst v) w)
    (ho:o.op= .load t x:=by rfl) (hg:o.guard=none:=by rfl) (hd:dstOK n o.dst=true:=by rfl) (hag:pureRun P (isAgg t)=some false:=by kernel_rfl) (hx:ev ρ x= .pointer (some ⟨b,off+k,none⟩):=by kernel_rfl) (hv:l[k]?=some v:=by kernel_rfl):
    OpsE P n ops (o::rest) N ρ w:=sLp hS hp k v (pureRun_run P _ _ hag w) h ho hg hd hx hv
theorem sMA (hS:Sat W w cs) {b off:Nat} {l:List Value} (hp:PtR cs b off l) (i:Nat) (vs:List Value) (h:OpsE P n ops rest N (put ρ o.dst (.agg vs.toArray)) w)
    (ho:o.op= .load t x:=by rfl) (hg:o.guard=none:=by rfl) (hd:dstOK n o.dst=true:=by rfl) (hag:pureRun P (isAgg t)=some true:=by kernel_rfl) (hsz:pureRun P (sizeOf t)=some vs.length:=by kernel_rfl) (hx:ev ρ x= .pointer (some ⟨b,off+i,none⟩):=by kernel_rfl) (hle:Nat.ble (i+vs.length) l.length=true:=by kernel_rfl)
    (hv:(l.drop i).take vs.length=vs:=by kernel_rfl):OpsE P n ops (o::rest) N ρ w:=sLpA hS hp i vs (pureRun_run P _ _ hag w) (pureRun_run P _ _ hsz w) h ho hg hd hx rfl hle hv
def bsOK (P:Program) (t E len:Nat) (ps:List (Nat×Value)):Option Nat×Bool×Option (Array Value):=match pureRun P (underlying t),pureRun P (sizeOf E),pureRun P (zeroValue E) with
  |some (.slice E'),some sz,some z=>(some E',Nat.ble (len*sz) (2^24),Instr.fill (fun i=>some (i*sz,sz)) ((Array.range (len*sz)).map ((if len*sz=0 then #[] else z.cells)[·%(if len*sz=0 then #[] else z.cells).size]!)) ps)
  |_,_,_=>(none,false,none)
theorem sBK (hS:Sat W w cs) (c:Array Value) (E:Nat) {len:Nat} {parts:Array (Nat×Operand)} (h:∀b w',Sat W w' ([(b, .cells c E (0,0))]::cs)->OpsE P n ops rest N (put ρ o.dst (.slice (some ⟨b,0,none⟩) len len)) w')
    (ho:o.op= .buildSlice t len parts:=by rfl) (hg:o.guard=none:=by rfl) (hd:dstOK n o.dst=true:=by rfl) (hb:bsOK P t E len (parts.map fun (i,x)=>(i,ev ρ x)).toList=(some E,true,some c):=by kernel_rfl):OpsE P n ops (o::rest) N ρ w:=by
  unfold bsOK at hb
  split at hb
  · rename_i E' sz z e1 e2 e3
    simp only [Prod.mk.injEq,Option.some.injEq] at hb
    obtain ⟨rfl,hl,hf⟩:=hb
    exact sBS hS c (pureRun_run P _ _ e1) (pureRun_run P _ _ e2) (pureRun_run P _ _ e3) h ho hg hd hl hf
  · cases hb
end
abbrev SO:=Option Addr×Nat×Nat×Chunk
abbrev pS:=Plan.sts
section
variable {α:Type} {enc:α->List Value} {sz:Nat} {a:Option Addr} {len cap:Nat} {xs:List α} {c:Chunk} {E:Nat} {cs:List Chunk}
theorem RdT.ll (h:RdT enc sz cs a len cap xs):(len<=cap/\cap<=9223372036854775807)/\xs.length=len:=⟨h.le,h.len⟩
theorem OwnT.ll (h:OwnT enc E sz a len cap xs c):(len<=cap/\cap<=9223372036854775807)/\xs.length=len:=⟨h.le,h.len⟩
end
theorem qV {P:Program} {n:Nat} {ρ:Env} {w:World} {ops:Array Oper} {E:List Nat} {listed:Array Bool} {N:Env->World->Prop} {L:Facts} {s:Plan} (k:Nat) {l:List Nat} (h:walkP P n ops E L N (Plan.sts (l.drop k) s) (listAll (l.take k) listed) (envP P n ops (sel ops (l.take k)) ρ) w) (hl:((l.take k).all fun i=>Nat.blt i ops.size)=true:=by rfl)
    (hk:pureB P n ops (sel ops (l.take k)) ρ=true:=by kernel_rfl):walkP P n ops E L N (Plan.sts l s) listed ρ w:=by
  have he:∀(a b:List Nat),Plan.sts (a++b) s=Plan.sts a (Plan.sts b s):=fun a b=>by induction a with|nil=>rfl|cons x a ih=>simp only [List.cons_append,Plan.sts,ih]
  have:=qU (l.take k) h hl hk
  rwa [<-he,List.take_append_drop] at this
end Go.E

namespace Go.E
set_option linter.unusedVariables false
inductive Fr where
  |seq (c:Code)
  |blk (id:Nat)
  |inv (N:Env->World->Prop)
def KS (P:Program) (n:Nat) (R:Exit->Env->World->Prop):List Fr->Exit->Env->World->Prop
  |[]=>R
  | .seq c::fs=>thenK (CodeE P n c (KS P n R fs)) (KS P n R fs)
  | .blk id::fs=>blockK id (KS P n R fs)
  | .inv N::fs=>thenK N (KS P n R fs)
inductive MS where
  |code (c:Code) (fs:List Fr) (ρ:Env)
  |ops (os:Array Oper) (l:List Oper) (fs:List Fr) (ρ:Env)
  |ex (e:Exit) (fs:List Fr) (ρ:Env)
def MS.G (P:Program) (n:Nat) (R:Exit->Env->World->Prop) (w:World):MS->Prop
  | .code c fs ρ=>CodeE P n c (KS P n R fs) ρ w
  | .ops os l fs ρ=>OpsE P n os l (KS P n R fs .normal) ρ w
  | .ex e fs ρ=>KS P n R fs e ρ w
def ptrB:Value->Nat
  | .pointer (some ⟨b,_,none⟩)=>b
  |_=>0
def ptrO:Value->Nat
  | .pointer (some ⟨_,o,none⟩)=>o
  |_=>0
def isP:Value->Bool
  | .pointer (some ⟨_,_,none⟩)=>true
  |_=>false
def chX (cs:List Chunk) (i:Nat):Option (Array Value):=match cs[i]? with
  |some [(_, .cells c _ _)]=>some c
  |_=>none
def ldC (c:Array Value) (h off:Nat):Value:=bif Nat.blt h 100 then c.getD off undef else .agg ((c.toList.drop off).take (h/100)).toArray
def hix (h:Nat):Nat:=bif Nat.blt h 100 then h else h%100
def ldV (cs:List Chunk) (h off:Nat):Value:=ldC (chC cs (hix h)) h off
def stO (P:Program) (n:Nat) (cs:List Chunk) (os:Array Oper) (ρ:Env) (o:Oper) (hs:List Nat):Value×List Nat:=match guardP os n ρ o.guard with
  |some true=>match o.op with
    | .load _ x=>match hs with
      |h::hs=>match chX cs (hix h) with
        |some c=>(ldC c h (ptrO (ev ρ x)),hs)
        |none=>(undef,hs)
      |[]=>(undef,[])
    |_=>(valP (pureRun P (execOp (ev ρ) o)),hs)
  |_=>(undef,hs)
def okL (P:Program) (cs:List Chunk) (ρ:Env) (t:TypeId) (x:Operand) (h:Nat):Bool:=isP (ev ρ x)&&
  (bif Nat.blt h 100 then isC cs h&&Nat.blt (ptrO (ev ρ x)) (chC cs h).size&&(match pureRun P (isAgg t) with|some b=>!b|none=>false)
    else isC cs (h%100)&&Nat.ble (ptrO (ev ρ x)+h/100) (chC cs (h%100)).size&&(match pureRun P (isAgg t) with|some b=>b|none=>false)&&(match pureRun P (sizeOf t) with|some k=>Nat.beq k (h/100)|none=>false))
def okO (P:Program) (n:Nat) (cs:List Chunk) (os:Array Oper) (ρ:Env) (o:Oper) (hs:List Nat):Bool:=dstOK n o.dst&&match guardP os n ρ o.guard with
  |some true=>match o.op with
    | .load t x=>match hs with
      |h::_=>okL P cs ρ t x h
      |[]=>false
    |_=>isV (pureRun P (execOp (ev ρ) o))
  |some false=>true
  |none=>false
def obO (n:Nat) (cs:List Chunk) (os:Array Oper) (ρ:Env) (o:Oper) (hs:List Nat):List Nat×List Nat:=match guardP os n ρ o.guard with
  |some true=>match o.op with
    | .load _ x=>match hs with
      |h::_=>([ptrB (ev ρ x)],[chB cs (hix h)])
      |[]=>([],[])
    |_=>([],[])
  |_=>([],[])
def st1 (P:Program) (n:Nat) (cs:List Chunk) (hs:List Nat):MS->MS×List Nat
  | .code c fs ρ=>match c with
    | .seq x y=>(.code x (.seq y::fs) ρ,hs)
    | .region _ os _=>(.ops os os.toList fs ρ,hs)
    | .block id c=>(.code c (.blk id::fs) ρ,hs)
    | .ret=>(.ex .ret fs ρ,hs)
    | .exit id=>(.ex (.exit id) fs ρ,hs)
    | .cond c x y=>match ev ρ c with
      | .bool true=>(.code x fs ρ,hs)
      |_=>(.code y fs ρ,hs)
    |_=>(.ex .normal fs ρ,hs)
  | .ops os l fs ρ=>match l with
    |[]=>(.ex .normal fs ρ,hs)
    |o::l=>match stO P n cs os ρ o hs with
      |(v,hs)=>(.ops os l fs (put ρ o.dst v),hs)
  | .ex e fs ρ=>match fs with
    | .seq c::fs=>match e with
      | .normal=>(.code c fs ρ,hs)
      |_=>(.ex e fs ρ,hs)
    | .blk id::fs=>match e with
      | .exit id'=>(.ex (bif Nat.beq id' id then .normal else .exit id') fs ρ,hs)
      |_=>(.ex e fs ρ,hs)
    | .inv _::fs=>(.ex e fs ρ,hs)
    |[]=>(.ex e [] ρ,hs)
def isN:Exit->Bool
  | .normal=>true
  |_=>false
def ok1 (P:Program) (n:Nat) (cs:List Chunk) (hs:List Nat):MS->Bool
  | .code c fs ρ=>match c with
    | .seq _ _=>true
    | .region _ _ d=>!d
    | .block _ _=>true
    | .ret=>true
    | .exit _=>true
    | .skip=>true
    | .cond c _ _=>match ev ρ c with
      | .bool true=>true
      | .bool false=>true
      |_=>false
    |_=>false
  | .ops os l fs ρ=>match l with
    |[]=>true
    |o::_=>okO P n cs os ρ o hs
  | .ex e fs ρ=>match fs with
    | .inv _::_=>!isN e
    |_=>true
def ob1 (n:Nat) (cs:List Chunk) (hs:List Nat):MS->List Nat×List Nat
  | .ops os (o::_) _ ρ=>obO n cs os ρ o hs
  |_=>([],[])
def run (P:Program) (n:Nat) (cs:List Chunk):Nat->List Nat->MS->MS
  |0,_,s=>s
  |k+1,hs,s=>match st1 P n cs hs s with
    |(s',hs')=>run P n cs k hs' s'
def okR (P:Program) (n:Nat) (cs:List Chunk):Nat->List Nat->MS->Bool
  |0,_,_=>true
  |k+1,hs,s=>ok1 P n cs hs s&&match st1 P n cs hs s with
    |(s',hs')=>okR P n cs k hs' s'
def obA (P:Program) (n:Nat) (cs:List Chunk):Nat->List Nat->MS->List Nat
  |0,_,_=>[]
  |k+1,hs,s=>(ob1 n cs hs s).1++match st1 P n cs hs s with
    |(s',hs')=>obA P n cs k hs' s'
def obB (P:Program) (n:Nat) (cs:List Chunk):Nat->List Nat->MS->List Nat
  |0,_,_=>[]
  |k+1,hs,s=>(ob1 n cs hs s).2++match st1 P n cs hs s with
    |(s',hs')=>obB P n cs k hs' s'
section
variable {P:Program} {n:Nat} {R:Exit->Env->World->Prop} {W w:World} {cs:List Chunk}
theorem isP_eq {v:Value} (h:isP v=true):v= .pointer (some ⟨ptrB v,ptrO v,none⟩):=by
  unfold isP at h
  split at h
  · rfl
  · cases h
theorem chX_eq {i:Nat} (h:isC cs i=true):chX cs i=some (chC cs i):=by
  obtain ⟨E,f,hi⟩:=isC_eq h
  unfold chX;rw [hi]
theorem okL_C {ρ:Env} {t:TypeId} {x:Operand} {h:Nat} (hk:okL P cs ρ t x h=true):isC cs (hix h)=true:=by
  unfold okL at hk
  rw [Bool.and_eq_true] at hk
  have h2:=hk.2
  unfold hix
  cases hh:Nat.blt h 100 with
  |true=>rw [hh] at h2;simp only [cond_true,Bool.and_eq_true] at h2⊢;exact h2.1.1
  |false=>rw [hh] at h2;simp only [cond_false,Bool.and_eq_true] at h2⊢;exact h2.1.1.1
theorem run_pure {α:Type} {s:Sem α} {a:α} (h:pureRun P s=some a):s.run P w= .ok a w:=pureRun_run P s a h w
theorem load_ok (hS:Sat W w cs) {ρ:Env} {o:Oper} {t:TypeId} {x:Operand} {h:Nat} (ho:o.op= .load t x) (hk:okL P cs ρ t x h=true) (hb:ptrB (ev ρ x)=chB cs (hix h)):Yields P ρ o (ldV cs h (ptrO (ev ρ x))) w:=by
  unfold okL at hk
  rw [Bool.and_eq_true] at hk
  have hx:=isP_eq hk.1
  have hk2:=hk.2
  unfold hix at hb
  cases hh:Nat.blt h 100 with
  |true=>
    rw [hh] at hk2 hb
    simp only [cond_true,Bool.and_eq_true] at hk2 hb
    obtain ⟨E,f,hi⟩:=isC_eq hk2.1.1
    have hlt:ptrO (ev ρ x)<(chC cs h).size:=by simpa using hk2.1.2
    have hag:(isAgg t).run P w= .ok false w:=by
      have h3:=hk2.2
      split at h3
      · rename_i b e;simp only [Bool.not_eq_true'] at h3;subst h3;exact run_pure e
      · cases h3
    have hv:(chC cs h)[ptrO (ev ρ x)]?=some ((chC cs h).getD (ptrO (ev ρ x)) undef):=by simp [Array.getD,hlt]
    unfold ldV ldC hix
    rw [hh]
    simp only [cond_true]
    exact Y_load ho hag (hx.trans (by rw [hb])) (hS.cell h hi hv)
  |false=>
    rw [hh] at hk2 hb
    simp only [cond_false,Bool.and_eq_true] at hk2 hb
    obtain ⟨E,f,hi⟩:=isC_eq hk2.1.1.1
    have hle:ptrO (ev ρ x)+h/100<=(chC cs (h%100)).size:=Nat.le_of_ble_eq_true hk2.1.1.2
    have hag:(isAgg t).run P w= .ok true w:=by
      have h3:=hk2.1.2
      split at h3
      · rename_i b e;subst h3;exact run_pure e
      · cases h3
    have hsz:(sizeOf t).run P w= .ok (h/100) w:=by
      have h3:=hk2.2
      split at h3
      · rename_i k e;have:=Nat.eq_of_beq_eq_true h3;subst this;exact run_pure e
      · cases h3
    have hlen:(((chC cs (h%100)).toList.drop (ptrO (ev ρ x))).take (h/100)).length=h/100:=by
      rw [List.length_take,List.length_drop,Array.length_toList];omega
    unfold ldV ldC hix
    rw [hh]
    simp only [cond_false]
    exact Y_loadA ho hag hsz (hx.trans (by rw [hb])) hlen hS (PtR.blk (h%100) hi (by rw [hlen]))
theorem st1_sound (hS:Sat W w cs) (hs:List Nat) (s:MS) (hk:ok1 P n cs hs s=true) (hb:(ob1 n cs hs s).1=(ob1 n cs hs s).2) (h:(st1 P n cs hs s).1.G P n R w):s.G P n R w:=by
  cases s with
  |code c fs ρ=>
    cases c with
    |seq x y=>exact seqE h
    |region id os d=>
      simp only [ok1,Bool.not_eq_true'] at hk
      subst hk
      have h0:OpsE P n os os.toList (KS P n R fs .normal) ρ w:=h
      have e:os.toList.toArray=os:=Array.toArray_toList
      show CodeE P n (.region id os false) (KS P n R fs) ρ w
      rw [<-e]
      exact regionE (by rw [e];exact h0)
    |block id c=>exact blockE h
    |ret=>exact retE h
    |exit id=>exact exitE h
    |skip=>exact skipE h
    |cond c x y=>
      simp only [ok1] at hk
      simp only [st1] at h
      split at h
      · rename_i e;exact condE_true e h
      · rename_i e
        split at hk
        · rename_i e2;exact absurd e2 e
        · rename_i e2;exact condE_false e2 h
        · cases hk
    |_=>cases hk
  |ops os l fs ρ=>
    cases l with
    |nil=>exact nilO h
    |cons o l=>
      simp only [ok1,okO,Bool.and_eq_true] at hk
      simp only [ob1,obO] at hb
      simp only [st1,stO] at h
      obtain ⟨hd,hk⟩:=hk
      cases hg:guardP os n ρ o.guard with
      |none=>rw [hg] at hk;cases hk
      |some b=>
        rw [hg] at hk h hb
        have key:∀v,(b=true->Yields P ρ o v w)->(b=false->v=undef)->OpsE P n os l (KS P n R fs .normal) (put ρ o.dst v) w->OpsE P n os (o::l) (KS P n R fs .normal) ρ w:=by
          intro v hy hu hr
          cases hgo:o.guard with
          |none=>rw [hgo] at hg;simp only [guardP,Option.some.injEq] at hg;exact stepY v hgo hd (hy hg.symm) hr
          |some g=>
            obtain ⟨j,q⟩:=g
            rw [hgo] at hg
            cases b with
            |true=>
              refine guardYes hgo (guardP_yes hg) (stepY v rfl hd ?_ hr)
              have:=hy rfl
              unfold Yields execOp at this⊢
              exact this
            |false=>rw [hu rfl] at hr;exact guardNo hgo hd (guardP_no hg) hr
        cases b with
        |false=>exact key undef (fun e=>by cases e) (fun _=>rfl) h
        |true=>
          dsimp only at hk h hb
          split at hk
          · rename_i t x ho
            rw [ho] at h hb
            cases hs with
            |nil=>cases hk
            |cons q hs=>
              dsimp only at h hb hk
              rw [chX_eq (okL_C hk)] at h
              exact key _ (fun _=>load_ok hS ho hk (List.cons.inj hb).1) (fun e=>by cases e) h
          · rename_i hno
            have h':OpsE P n os l (KS P n R fs .normal) (put ρ o.dst (valP (pureRun P (execOp (ev ρ) o)))) w:=by
              split at h
              · rename_i t x ho;exact absurd ho (hno t x)
              · exact h
            refine key _ (fun _=>?_) (fun e=>by cases e) h'
            cases hr:pureRun P (execOp (ev ρ) o) with
            |none=>rw [hr] at hk;cases hk
            |some z=>
              rw [hr] at hk
              cases z<;>simp only [isV] at hk<;>first|contradiction|exact pureRun_run P _ _ hr w
  |ex e fs ρ=>
    cases fs with
    |nil=>exact h
    |cons f fs=>
      cases f with
      |seq c=>cases e<;>exact h
      |blk id=>
        cases e with
        |exit id'=>
          show blockK id _ (.exit id') ρ w
          simp only [st1] at h
          cases hi:Nat.beq id' id with
          |true=>rw [hi] at h;have:=Nat.eq_of_beq_eq_true hi;subst this;exact blockK_x h
          |false=>rw [hi] at h;exact blockK_y hi h
        |_=>exact h
      |inv N=>
        cases e with
        |normal=>cases hk
        |_=>exact h
theorem run_sound (hS:Sat W w cs):∀(k:Nat) (hs:List Nat) (s:MS),okR P n cs k hs s=true->obA P n cs k hs s=obB P n cs k hs s->(run P n cs k hs s).G P n R w->s.G P n R w
  |0,_,_,_,_,h=>h
  |k+1,hs,s,hk,hb,h=>by
    simp only [okR,Bool.and_eq_true] at hk
    simp only [obA,obB] at hb
    simp only [run] at h
    have hl:(ob1 n cs hs s).1.length=(ob1 n cs hs s).2.length:=by
      unfold ob1
      split
      · unfold obO;split
        · split
          · split<;>rfl
          · rfl
        · rfl
      · rfl
    obtain ⟨h1,h2⟩:=List.append_inj hb hl
    exact st1_sound hS hs s hk.1 h1 (run_sound hS k _ _ hk.2 h2 h)
variable {fs:List Fr} {ρ:Env}
theorem sat0 (w:World):Sat w w []:=⟨rfl,rfl,rfl,List.nodup_nil,fun p hp=>by cases hp⟩
def env0:Env:=fun _=>undef
def MS.env:MS->Env
  | .code _ _ ρ=>ρ
  | .ops _ _ _ ρ=>ρ
  | .ex _ _ ρ=>ρ
def MS.ctl:MS->MS
  | .code c fs _=> .code c fs env0
  | .ops os l fs _=> .ops os l fs env0
  | .ex e fs _=> .ex e fs env0
def MS.set:MS->Env->MS
  | .code c fs _,ρ=> .code c fs ρ
  | .ops os l fs _,ρ=> .ops os l fs ρ
  | .ex e fs _,ρ=> .ex e fs ρ
theorem MS.ctl_set (s:MS):s.ctl.set s.env=s:=by cases s<;>rfl
theorem run_to (hS:Sat W w cs) {k:Nat} {hs:List Nat} {s t:MS} (hk:okR P n cs k hs s=true) (hb:obA P n cs k hs s=obB P n cs k hs s) (e0:(run P n cs k hs s).ctl=t) (h:(t.set (run P n cs k hs s).env).G P n R w):s.G P n R w:=
  run_sound hS k hs s hk hb (by rw [<-e0,MS.ctl_set] at h;exact h)
variable {fs':List Fr}
theorem gCC {c:Code} {c':Code} (hS:Sat W w cs) (k:Nat) (hs:List Nat) (e0:(run P n cs k hs (.code c fs ρ)).ctl=(.code c' fs' env0)) (h:CodeE P n c' (KS P n R fs') (run P n cs k hs (.code c fs ρ)).env w) (hk:okR P n cs k hs (.code c fs ρ)=true:=by kernel_rfl) (hb:obA P n cs k hs (.code c fs ρ)=obB P n cs k hs (.code c fs ρ):=by kernel_rfl):CodeE P n c (KS P n R fs) ρ w:=run_to hS hk hb e0 h
theorem jCC {c:Code} {c':Code} (k:Nat) (e0:(run P n [] k [] (.code c fs ρ)).ctl=(.code c' fs' env0)) (h:CodeE P n c' (KS P n R fs') (run P n [] k [] (.code c fs ρ)).env w) (hk:okR P n [] k [] (.code c fs ρ)=true:=by kernel_rfl) (hb:obA P n [] k [] (.code c fs ρ)=obB P n [] k [] (.code c fs ρ):=by kernel_rfl):CodeE P n c (KS P n R fs) ρ w:=run_to (sat0 w) hk hb e0 h
theorem gCO {c:Code} {os':Array Oper} {l':List Oper} (hS:Sat W w cs) (k:Nat) (hs:List Nat) (e0:(run P n cs k hs (.code c fs ρ)).ctl=(.ops os' l' fs' env0)) (h:OpsE P n os' l' (KS P n R fs' .normal) (run P n cs k hs (.code c fs ρ)).env w) (hk:okR P n cs k hs (.code c fs ρ)=true:=by kernel_rfl) (hb:obA P n cs k hs (.code c fs ρ)=obB P n cs k hs (.code c fs ρ):=by kernel_rfl):CodeE P n c (KS P n R fs) ρ w:=run_to hS hk hb e0 h
theorem jCO {c:Code} {os':Array Oper} {l':List Oper} (k:Nat) (e0:(run P n [] k [] (.code c fs ρ)).ctl=(.ops os' l' fs' env0)) (h:OpsE P n os' l' (KS P n R fs' .normal) (run P n [] k [] (.code c fs ρ)).env w) (hk:okR P n [] k [] (.code c fs ρ)=true:=by kernel_rfl) (hb:obA P n [] k [] (.code c fs ρ)=obB P n [] k [] (.code c fs ρ):=by kernel_rfl):CodeE P n c (KS P n R fs) ρ w:=run_to (sat0 w) hk hb e0 h
theorem gCR {c:Code} {e':Exit} (hS:Sat W w cs) (k:Nat) (hs:List Nat) (e0:(run P n cs k hs (.code c fs ρ)).ctl=(.ex e' [] env0)) (h:R e' (run P n cs k hs (.code c fs ρ)).env w) (hk:okR P n cs k hs (.code c fs ρ)=true:=by kernel_rfl) (hb:obA P n cs k hs (.code c fs ρ)=obB P n cs k hs (.code c fs ρ):=by kernel_rfl):CodeE P n c (KS P n R fs) ρ w:=run_to hS hk hb e0 h
theorem jCR {c:Code} {e':Exit} (k:Nat) (e0:(run P n [] k [] (.code c fs ρ)).ctl=(.ex e' [] env0)) (h:R e' (run P n [] k [] (.code c fs ρ)).env w) (hk:okR P n [] k [] (.code c fs ρ)=true:=by kernel_rfl) (hb:obA P n [] k [] (.code c fs ρ)=obB P n [] k [] (.code c fs ρ):=by kernel_rfl):CodeE P n c (KS P n R fs) ρ w:=run_to (sat0 w) hk hb e0 h
theorem gCI {c:Code} {N':Env->World->Prop} (hS:Sat W w cs) (k:Nat) (hs:List Nat) (e0:(run P n cs k hs (.code c fs ρ)).ctl=(.ex .normal (.inv N'::fs') env0)) (h:N' (run P n cs k hs (.code c fs ρ)).env w) (hk:okR P n cs k hs (.code c fs ρ)=true:=by kernel_rfl) (hb:obA P n cs k hs (.code c fs ρ)=obB P n cs k hs (.code c fs ρ):=by kernel_rfl):CodeE P n c (KS P n R fs) ρ w:=run_to hS hk hb e0 h
theorem jCI {c:Code} {N':Env->World->Prop} (k:Nat) (e0:(run P n [] k [] (.code c fs ρ)).ctl=(.ex .normal (.inv N'::fs') env0)) (h:N' (run P n [] k [] (.code c fs ρ)).env w) (hk:okR P n [] k [] (.code c fs ρ)=true:=by kernel_rfl) (hb:obA P n [] k [] (.code c fs ρ)=obB P n [] k [] (.code c fs ρ):=by kernel_rfl):CodeE P n c (KS P n R fs) ρ w:=run_to (sat0 w) hk hb e0 h
theorem gOC {os:Array Oper} {l:List Oper} {c':Code} (hS:Sat W w cs) (k:Nat) (hs:List Nat) (e0:(run P n cs k hs (.ops os l fs ρ)).ctl=(.code c' fs' env0)) (h:CodeE P n c' (KS P n R fs') (run P n cs k hs (.ops os l fs ρ)).env w) (hk:okR P n cs k hs (.ops os l fs ρ)=true:=by kernel_rfl) (hb:obA P n cs k hs (.ops os l fs ρ)=obB P n cs k hs (.ops os l fs ρ):=by kernel_rfl):OpsE P n os l (KS P n R fs .normal) ρ w:=run_to hS hk hb e0 h
theorem jOC {os:Array Oper} {l:List Oper} {c':Code} (k:Nat) (e0:(run P n [] k [] (.ops os l fs ρ)).ctl=(.code c' fs' env0)) (h:CodeE P n c' (KS P n R fs') (run P n [] k [] (.ops os l fs ρ)).env w) (hk:okR P n [] k [] (.ops os l fs ρ)=true:=by kernel_rfl) (hb:obA P n [] k [] (.ops os l fs ρ)=obB P n [] k [] (.ops os l fs ρ):=by kernel_rfl):OpsE P n os l (KS P n R fs .normal) ρ w:=run_to (sat0 w) hk hb e0 h
theorem gOO {os:Array Oper} {l:List Oper} {os':Array Oper} {l':List Oper} (hS:Sat W w cs) (k:Nat) (hs:List Nat) (e0:(run P n cs k hs (.ops os l fs ρ)).ctl=(.ops os' l' fs' env0)) (h:OpsE P n os' l' (KS P n R fs' .normal) (run P n cs k hs (.ops os l fs ρ)).env w) (hk:okR P n cs k hs (.ops os l fs ρ)=true:=by kernel_rfl) (hb:obA P n cs k hs (.ops os l fs ρ)=obB P n cs k hs (.ops os l fs ρ):=by kernel_rfl):OpsE P n os l (KS P n R fs .normal) ρ w:=run_to hS hk hb e0 h
theorem jOO {os:Array Oper} {l:List Oper} {os':Array Oper} {l':List Oper} (k:Nat) (e0:(run P n [] k [] (.ops os l fs ρ)).ctl=(.ops os' l' fs' env0)) (h:OpsE P n os' l' (KS P n R fs' .normal) (run P n [] k [] (.ops os l fs ρ)).env w) (hk:okR P n [] k [] (.ops os l fs ρ)=true:=by kernel_rfl) (hb:obA P n [] k [] (.ops os l fs ρ)=obB P n [] k [] (.ops os l fs ρ):=by kernel_rfl):OpsE P n os l (KS P n R fs .normal) ρ w:=run_to (sat0 w) hk hb e0 h
theorem jOX {os:Array Oper} {l:List Oper} {e':Exit} (k:Nat) (e0:(run P n [] k [] (.ops os l fs ρ)).ctl=(.ex e' fs' env0)) (h:KS P n R fs' e' (run P n [] k [] (.ops os l fs ρ)).env w) (hk:okR P n [] k [] (.ops os l fs ρ)=true:=by kernel_rfl) (hb:obA P n [] k [] (.ops os l fs ρ)=obB P n [] k [] (.ops os l fs ρ):=by kernel_rfl):OpsE P n os l (KS P n R fs .normal) ρ w:=run_to (sat0 w) hk hb e0 h
theorem gOR {os:Array Oper} {l:List Oper} {e':Exit} (hS:Sat W w cs) (k:Nat) (hs:List Nat) (e0:(run P n cs k hs (.ops os l fs ρ)).ctl=(.ex e' [] env0)) (h:R e' (run P n cs k hs (.ops os l fs ρ)).env w) (hk:okR P n cs k hs (.ops os l fs ρ)=true:=by kernel_rfl) (hb:obA P n cs k hs (.ops os l fs ρ)=obB P n cs k hs (.ops os l fs ρ):=by kernel_rfl):OpsE P n os l (KS P n R fs .normal) ρ w:=run_to hS hk hb e0 h
theorem jOR {os:Array Oper} {l:List Oper} {e':Exit} (k:Nat) (e0:(run P n [] k [] (.ops os l fs ρ)).ctl=(.ex e' [] env0)) (h:R e' (run P n [] k [] (.ops os l fs ρ)).env w) (hk:okR P n [] k [] (.ops os l fs ρ)=true:=by kernel_rfl) (hb:obA P n [] k [] (.ops os l fs ρ)=obB P n [] k [] (.ops os l fs ρ):=by kernel_rfl):OpsE P n os l (KS P n R fs .normal) ρ w:=run_to (sat0 w) hk hb e0 h
theorem gOI {os:Array Oper} {l:List Oper} {N':Env->World->Prop} (hS:Sat W w cs) (k:Nat) (hs:List Nat) (e0:(run P n cs k hs (.ops os l fs ρ)).ctl=(.ex .normal (.inv N'::fs') env0)) (h:N' (run P n cs k hs (.ops os l fs ρ)).env w) (hk:okR P n cs k hs (.ops os l fs ρ)=true:=by kernel_rfl) (hb:obA P n cs k hs (.ops os l fs ρ)=obB P n cs k hs (.ops os l fs ρ):=by kernel_rfl):OpsE P n os l (KS P n R fs .normal) ρ w:=run_to hS hk hb e0 h
theorem jOI {os:Array Oper} {l:List Oper} {N':Env->World->Prop} (k:Nat) (e0:(run P n [] k [] (.ops os l fs ρ)).ctl=(.ex .normal (.inv N'::fs') env0)) (h:N' (run P n [] k [] (.ops os l fs ρ)).env w) (hk:okR P n [] k [] (.ops os l fs ρ)=true:=by kernel_rfl) (hb:obA P n [] k [] (.ops os l fs ρ)=obB P n [] k [] (.ops os l fs ρ):=by kernel_rfl):OpsE P n os l (KS P n R fs .normal) ρ w:=run_to (sat0 w) hk hb e0 h
theorem gXC {e:Exit} {c':Code} (hS:Sat W w cs) (k:Nat) (hs:List Nat) (e0:(run P n cs k hs (.ex e fs ρ)).ctl=(.code c' fs' env0)) (h:CodeE P n c' (KS P n R fs') (run P n cs k hs (.ex e fs ρ)).env w) (hk:okR P n cs k hs (.ex e fs ρ)=true:=by kernel_rfl) (hb:obA P n cs k hs (.ex e fs ρ)=obB P n cs k hs (.ex e fs ρ):=by kernel_rfl):KS P n R fs e ρ w:=run_to hS hk hb e0 h
theorem jXC {e:Exit} {c':Code} (k:Nat) (e0:(run P n [] k [] (.ex e fs ρ)).ctl=(.code c' fs' env0)) (h:CodeE P n c' (KS P n R fs') (run P n [] k [] (.ex e fs ρ)).env w) (hk:okR P n [] k [] (.ex e fs ρ)=true:=by kernel_rfl) (hb:obA P n [] k [] (.ex e fs ρ)=obB P n [] k [] (.ex e fs ρ):=by kernel_rfl):KS P n R fs e ρ w:=run_to (sat0 w) hk hb e0 h
theorem gXO {e:Exit} {os':Array Oper} {l':List Oper} (hS:Sat W w cs) (k:Nat) (hs:List Nat) (e0:(run P n cs k hs (.ex e fs ρ)).ctl=(.ops os' l' fs' env0)) (h:OpsE P n os' l' (KS P n R fs' .normal) (run P n cs k hs (.ex e fs ρ)).env w) (hk:okR P n cs k hs (.ex e fs ρ)=true:=by kernel_rfl) (hb:obA P n cs k hs (.ex e fs ρ)=obB P n cs k hs (.ex e fs ρ):=by kernel_rfl):KS P n R fs e ρ w:=run_to hS hk hb e0 h
theorem jXO {e:Exit} {os':Array Oper} {l':List Oper} (k:Nat) (e0:(run P n [] k [] (.ex e fs ρ)).ctl=(.ops os' l' fs' env0)) (h:OpsE P n os' l' (KS P n R fs' .normal) (run P n [] k [] (.ex e fs ρ)).env w) (hk:okR P n [] k [] (.ex e fs ρ)=true:=by kernel_rfl) (hb:obA P n [] k [] (.ex e fs ρ)=obB P n [] k [] (.ex e fs ρ):=by kernel_rfl):KS P n R fs e ρ w:=run_to (sat0 w) hk hb e0 h
theorem jXR {e:Exit} {e':Exit} (k:Nat) (e0:(run P n [] k [] (.ex e fs ρ)).ctl=(.ex e' [] env0)) (h:R e' (run P n [] k [] (.ex e fs ρ)).env w) (hk:okR P n [] k [] (.ex e fs ρ)=true:=by kernel_rfl) (hb:obA P n [] k [] (.ex e fs ρ)=obB P n [] k [] (.ex e fs ρ):=by kernel_rfl):KS P n R fs e ρ w:=run_to (sat0 w) hk hb e0 h
theorem jXI {e:Exit} {N':Env->World->Prop} (k:Nat) (e0:(run P n [] k [] (.ex e fs ρ)).ctl=(.ex .normal (.inv N'::fs') env0)) (h:N' (run P n [] k [] (.ex e fs ρ)).env w) (hk:okR P n [] k [] (.ex e fs ρ)=true:=by kernel_rfl) (hb:obA P n [] k [] (.ex e fs ρ)=obB P n [] k [] (.ex e fs ρ):=by kernel_rfl):KS P n R fs e ρ w:=run_to (sat0 w) hk hb e0 h
section
variable {R0 cs0:List Chunk} {w0:World} {γ:Type}
theorem loopF {b:Code} (fr:List Nat) (inv:γ->List Chunk->LI) (g0:γ) (h0:(inv g0 R0).P W w)
    (h:∀g ρ' w,(inv g R0).P W w->CodeE P n b (KS P n R (.inv (fun ρ'' w'=>∃g',(inv g' R0).m<(inv g R0).m/\KeepAt ρ'' (inv g' R0).sl ρ fr/\(inv g' R0).P W w')::fs)) (upds ρ' ((inv g R0).sl++keep ρ fr)) w) (ha:AllAt ρ (inv g0 R0).sl:=by exact alA):CodeE P n (.loop b) (KS P n R fs) ρ w:=loopB fr inv g0 h0 h ha
theorem cutF {x y:Code} (hS:Sat W w0 cs0) (k:Nat) (fr:List Nat) (inv:γ->List Chunk->LI) (h:CodeE P n x (KS P n R (.inv (fun ρ' w=>∃g,KeepAt ρ' (inv g R0).sl ρ fr/\(inv g R0).P W w)::fs)) ρ w)
    (h2:∀g ρ' w,(inv g R0).P W w->CodeE P n y (KS P n R fs) (upds ρ' ((inv g R0).sl++keep ρ fr)) w) (hR:Tl k cs0 R0:=by repeat constructor):CodeE P n (.seq x y) (KS P n R fs) ρ w:=cutB hS k fr inv h h2 hR
end
theorem loopM {c:Code} (m:Nat) (h:roundsE P n c (KS P n R fs) m ρ w):CodeE P n (.loop c) (KS P n R fs) ρ w:=loopN m h
theorem roundK {c:Code} {m:Nat} (h:CodeE P n c (KS P n R (.inv (roundsE P n c (KS P n R fs) m)::fs)) ρ w):roundsE P n c (KS P n R fs) (m+1) ρ w:=h
theorem callsK (n:Nat) {f:FuncId} {fn:Func} {b:Code} {args:Array Value} {R:Ending->World->Prop} (hf:P.funcs[f]?=some fn) (hb:fn.body=some b) (h:CodeE P n b (KS P n (retK P fn R) []) (rho0 args) w) (hn:fn.ntmps=n:=by rfl) (hs:Nat.ble args.size n=true:=by rfl):Calls P f args w R:=callsA n hf hb h hn hs
end
end Go.E

namespace Go.Proofs.YtghcddbhllkbmaaGreat
open Go Go.E Go.Proofs.Tryz
set_option linter.all false
set_option maxRecDepth 100000
set_option maxHeartbeats 2000000
variable {W w:World} {H:Chunk} {F:List Chunk}
structure Sl (α:Type) where
  a:Option Addr
  n:Nat
  k:Nat
  l:List α
structure Tap where
  first:Int
  weights:Sl Int
def encTap (x:Tap):List Value:=[.int .i64 x.first, .slice x.weights.a x.weights.n x.weights.k]
structure TapV where
  first:Int
  weights:List Int
  deriving DecidableEq
def Tap.v (x:Tap):TapV:=⟨x.first,x.weights.l⟩
structure Tap.Ok (cs:List Chunk) (q:Tap):Prop where
  weights:RdT Go.E.encI 1 cs q.weights.a q.weights.n q.weights.k q.weights.l
theorem Tap.Ok.of_mem {cs cs':List Chunk} {x:Tap} (h:Tap.Ok cs x) (hm:∀p∈cs.flatten,p∈cs'.flatten):Tap.Ok cs' x:=⟨h.weights.of_mem hm⟩
structure POp where
  code:Int
  arg:Int
  deriving DecidableEq
def encPOp (x:POp):List Value:=[.int .i64 x.code, .int .i64 x.arg]
structure Plane where
  w:Int
  h:Int
  max_:Int
  pix:Sl Int
def encPlane (x:Plane):List Value:=[.int .i64 x.w, .int .i64 x.h, .int .i64 x.max_, .slice x.pix.a x.pix.n x.pix.k]
structure PlaneV where
  w:Int
  h:Int
  max_:Int
  pix:List Int
  deriving DecidableEq
def Plane.v (x:Plane):PlaneV:=⟨x.w,x.h,x.max_,x.pix.l⟩
abbrev zP:Plane:=⟨0,0,0,⟨none,0,0,[]⟩⟩
structure Plane.Ok (cs:List Chunk) (q:Plane):Prop where
  pix:RdT Go.E.encI 1 cs q.pix.a q.pix.n q.pix.k q.pix.l
theorem Plane.Ok.of_mem {cs cs':List Chunk} {x:Plane} (h:Plane.Ok cs x) (hm:∀p∈cs.flatten,p∈cs'.flatten):Plane.Ok cs' x:=⟨h.pix.of_mem hm⟩
structure Stage where
  kind:Int
  a:Int
  b:Int
  barrier:Bool
  edgePolicy:Int
  edgeFill:Int
  kW:Int
  kH:Int
  weights:Sl Int
  row:Sl Int
  col:Sl Int
  shift:Int
  shift2:Int
  x:Sl Tap
  y:Sl Tap
  bins:Int
  ops:Sl POp
  max_:Int
def encStage (x:Stage):List Value:=[.int .i64 x.kind, .int .i64 x.a, .int .i64 x.b, .bool x.barrier, .int .i64 x.edgePolicy, .int .i64 x.edgeFill, .int .i64 x.kW, .int .i64 x.kH, .slice x.weights.a x.weights.n x.weights.k, .slice x.row.a x.row.n x.row.k, .slice x.col.a x.col.n x.col.k, .int .i64 x.shift, .int .i64 x.shift2, .slice x.x.a x.x.n x.x.k, .slice x.y.a x.y.n x.y.k, .int .i64 x.bins, .slice x.ops.a x.ops.n x.ops.k, .int .i64 x.max_]
structure StageV where
  kind:Int
  a:Int
  b:Int
  barrier:Bool
  edgePolicy:Int
  edgeFill:Int
  kW:Int
  kH:Int
  weights:List Int
  row:List Int
  col:List Int
  shift:Int
  shift2:Int
  x:List TapV
  y:List TapV
  bins:Int
  ops:List POp
  max_:Int
  deriving DecidableEq
def Stage.v (x:Stage):StageV:=⟨x.kind,x.a,x.b,x.barrier,x.edgePolicy,x.edgeFill,x.kW,x.kH,x.weights.l,x.row.l,x.col.l,x.shift,x.shift2,x.x.l.map Tap.v,x.y.l.map Tap.v,x.bins,x.ops.l,x.max_⟩
theorem sv {P:Prop} (h:P:=by simp only [Stage.v];omega):P:=h
structure Stage.Ok (cs:List Chunk) (q:Stage):Prop where
  weights:RdT Go.E.encI 1 cs q.weights.a q.weights.n q.weights.k q.weights.l
  row:RdT Go.E.encI 1 cs q.row.a q.row.n q.row.k q.row.l
  col:RdT Go.E.encI 1 cs q.col.a q.col.n q.col.k q.col.l
  x:RdT encTap 2 cs q.x.a q.x.n q.x.k q.x.l
  xD:∀z∈q.x.l,Tap.Ok cs z
  y:RdT encTap 2 cs q.y.a q.y.n q.y.k q.y.l
  yD:∀z∈q.y.l,Tap.Ok cs z
  ops:RdT encPOp 2 cs q.ops.a q.ops.n q.ops.k q.ops.l
theorem Stage.Ok.of_mem {cs cs':List Chunk} {x:Stage} (h:Stage.Ok cs x) (hm:∀p∈cs.flatten,p∈cs'.flatten):Stage.Ok cs' x:=⟨h.weights.of_mem hm,h.row.of_mem hm,h.col.of_mem hm,h.x.of_mem hm,fun y hy=>(h.xD y hy).of_mem hm,h.y.of_mem hm,fun y hy=>(h.yD y hy).of_mem hm,h.ops.of_mem hm⟩
abbrev zStage:Stage:=⟨0,0,0,false,0,0,0,0,⟨none,0,0,[]⟩,⟨none,0,0,[]⟩,⟨none,0,0,[]⟩,0,0,⟨none,0,0,[]⟩,⟨none,0,0,[]⟩,0,⟨none,0,0,[]⟩,0⟩
structure Job where
  inputs:Sl Plane
  stages:Sl Stage
  outputs:Sl Int
  priority:Int
def encJob (x:Job):List Value:=[.slice x.inputs.a x.inputs.n x.inputs.k, .slice x.stages.a x.stages.n x.stages.k, .slice x.outputs.a x.outputs.n x.outputs.k, .int .i64 x.priority]
structure JobV where
  inputs:List PlaneV
  stages:List StageV
  outputs:List Int
  priority:Int
  deriving DecidableEq
def Job.v (x:Job):JobV:=⟨x.inputs.l.map Plane.v,x.stages.l.map Stage.v,x.outputs.l,x.priority⟩
structure Job.Ok (cs:List Chunk) (q:Job):Prop where
  inputs:RdT encPlane 4 cs q.inputs.a q.inputs.n q.inputs.k q.inputs.l
  inputsD:∀z∈q.inputs.l,Plane.Ok cs z
  stages:RdT encStage 18 cs q.stages.a q.stages.n q.stages.k q.stages.l
  stagesD:∀z∈q.stages.l,Stage.Ok cs z
  outputs:RdT Go.E.encI 1 cs q.outputs.a q.outputs.n q.outputs.k q.outputs.l
theorem Job.Ok.of_mem {cs cs':List Chunk} {x:Job} (h:Job.Ok cs x) (hm:∀p∈cs.flatten,p∈cs'.flatten):Job.Ok cs' x:=⟨h.inputs.of_mem hm,fun y hy=>(h.inputsD y hy).of_mem hm,h.stages.of_mem hm,fun y hy=>(h.stagesD y hy).of_mem hm,h.outputs.of_mem hm⟩
structure Shape where
  w:Int
  h:Int
  max_:Int
  deriving DecidableEq
def encShape (x:Shape):List Value:=[.int .i64 x.w, .int .i64 x.h, .int .i64 x.max_]
structure Task where
  stage:Int
  part:Int
  rectX0:Int
  rectY0:Int
  rectX1:Int
  rectY1:Int
  deps:Sl Int
  rows:Int
  scratch:Int
def encTask (x:Task):List Value:=[.int .i64 x.stage, .int .i64 x.part, .int .i64 x.rectX0, .int .i64 x.rectY0, .int .i64 x.rectX1, .int .i64 x.rectY1, .slice x.deps.a x.deps.n x.deps.k, .int .i64 x.rows, .int .i64 x.scratch]
structure TaskV where
  stage:Int
  part:Int
  rectX0:Int
  rectY0:Int
  rectX1:Int
  rectY1:Int
  deps:List Int
  rows:Int
  scratch:Int
  deriving DecidableEq
def Task.v (x:Task):TaskV:=⟨x.stage,x.part,x.rectX0,x.rectY0,x.rectX1,x.rectY1,x.deps.l,x.rows,x.scratch⟩
structure Task.Ok (cs:List Chunk) (q:Task):Prop where
  deps:RdT Go.E.encI 1 cs q.deps.a q.deps.n q.deps.k q.deps.l
theorem Task.Ok.of_mem {cs cs':List Chunk} {x:Task} (h:Task.Ok cs x) (hm:∀p∈cs.flatten,p∈cs'.flatten):Task.Ok cs' x:=⟨h.deps.of_mem hm⟩
def be8 (n:Int):List Int:=[n%18446744073709551616/72057594037927936%256,n%18446744073709551616/281474976710656%256,n%18446744073709551616/1099511627776%256,n%18446744073709551616/4294967296%256,n%18446744073709551616/16777216%256,n%18446744073709551616/65536%256,n%18446744073709551616/256%256,n%18446744073709551616/1%256]
theorem be8_len (n:Int):(be8 n).length=8:=rfl
def bytesOf (l:List Int):List Int:=l.flatMap be8
theorem bytesOf_app (a b:List Int):bytesOf (a++b)=bytesOf a++bytesOf b:=by simp [bytesOf]
theorem bytesOf_cons (a:Int) (b:List Int):bytesOf (a::b)=be8 a++bytesOf b:=by simp [bytesOf]
theorem bytesOf_len (l:List Int):(bytesOf l).length=8*l.length:=by
  induction l with
  |nil=>rfl
  |cons x l ih=>rw [bytesOf_cons];simp [ih,be8_len];omega
def nInts (l:List Int):List Int:=(l.length:Int)::l
def nTap (t:TapV):List Int:=t.first::nInts t.weights
def nTaps (l:List TapV):List Int:=(l.length:Int)::l.flatMap nTap
def nOp (p:POp):List Int:=[p.code,p.arg]
def nOps (l:List POp):List Int:=(l.length:Int)::l.flatMap nOp
def nBool (b:Bool):Int:=if b then 1 else 0
def nStage (s:StageV):List Int:=
  [s.kind,s.a,s.b,nBool s.barrier,s.edgePolicy,s.edgeFill,s.kW,s.kH]++(nInts s.weights++(nInts s.row++(nInts s.col++([s.shift,s.shift2]++(nTaps s.x++(nTaps s.y++([s.bins]++(nOps s.ops++[s.max_]))))))))
structure Wr where
  bs:List Int
  full:Bool
def Wr.one (s:Wr) (n:Int):Wr:=if s.full=true\/262144<s.bs.length+8 then ⟨s.bs,true⟩ else ⟨s.bs++be8 n,false⟩
def Wr.put (s:Wr) (l:List Int):Wr:=l.foldl Wr.one s
theorem flat_one (l:List Int):l.flatMap (fun x=>[x])=l:=by induction l with|nil=>rfl|cons x l ih=>simp
def Enc (bs L:List Int):Prop:=bs=[84,70,1]++bytesOf L\/(262144<bs.length/\bs.length<=3+8*L.length)
theorem Enc.le {bs L:List Int} (h:Enc bs L):bs.length<=3+8*L.length:=by
  rcases h with h|h
  · rw [h];simp [bytesOf_len];omega
  · exact h.2
def WfI (x:Int):Prop:=-9223372036854775808<=x/\x<=9223372036854775807
structure Got {α:Type} (enc:α->List Int) (wf:α->Prop) (r0:List Int) (b0:Bool) (v:α) (r1:List Int) (b1:Bool):Prop where
  snd:b1=false->b0=false/\wf v/\r0=bytesOf (enc v)++r1
  cmp:b0=false->∀v0 r,wf v0->r0=bytesOf (enc v0)++r->b1=false
  len:r1.length<=r0.length
  byt:Bytes r0->Bytes r1
def Pf {α:Type} (enc:α->List Int) (wf:α->Prop):Prop:=∀v v' r r',wf v->wf v'->bytesOf (enc v)++r=bytesOf (enc v')++r'->v=v'/\r=r'
theorem be8_inj {x y:Int} (hx:WfI x) (hy:WfI y) (h:be8 x=be8 y):x=y:=by
  simp only [be8,List.cons.injEq,and_true] at h
  unfold WfI at hx hy
  omega
theorem be8_pf {x y:Int} {r r':List Int} (hx:WfI x) (hy:WfI y) (h:be8 x++r=be8 y++r'):x=y/\r=r':=by
  have:=List.append_inj h (by simp [be8_len])
  exact ⟨be8_inj hx hy this.1,this.2⟩
def encN (x:Int):List Int:=[x]
theorem bytes_encN (x:Int):bytesOf (encN x)=be8 x:=by simp [bytesOf,encN]
theorem pfI:Pf encN WfI:=by
  intro v v' r r' h h' e
  rw [bytes_encN,bytes_encN] at e
  exact be8_pf h h' e
def encP {α β:Type} (f:α->List Int) (g:β->List Int) (p:α×β):List Int:=f p.1++g p.2
def wfP {α β:Type} (f:α->Prop) (g:β->Prop) (p:α×β):Prop:=f p.1/\g p.2
theorem Pf.pair {α β:Type} {f:α->List Int} {g:β->List Int} {wf:α->Prop} {wg:β->Prop} (hf:Pf f wf) (hg:Pf g wg):Pf (encP f g) (wfP wf wg):=by
  intro ⟨a,b⟩ ⟨a',b'⟩ r r' h h' e
  simp only [encP,bytesOf_app,List.append_assoc] at e
  obtain ⟨rfl,e2⟩:=hf _ _ _ _ h.1 h'.1 e
  obtain ⟨rfl,e3⟩:=hg _ _ _ _ h.2 h'.2 e2
  exact ⟨rfl,e3⟩
theorem Got.pair {α β:Type} {f:α->List Int} {g:β->List Int} {wf:α->Prop} {wg:β->Prop} {r0 r1 r2:List Int} {b0 b1 b2:Bool} {a:α} {b:β} (hf:Pf f wf) (hA:Got f wf r0 b0 a r1 b1) (hB:Got g wg r1 b1 b r2 b2):
  Got (encP f g) (wfP wf wg) r0 b0 (a,b) r2 b2:=by
 refine ⟨fun h=>?_,fun h v0 r hw he=>?_,Nat.le_trans hB.len hA.len,fun h=>hB.byt (hA.byt h)⟩
 · exact (by obtain ⟨h1,hw,e⟩:=hB.snd h;obtain ⟨h2,a0,e2⟩:=hA.snd h1;exact ⟨h2,⟨a0,hw⟩,by simp only [encP,bytesOf_app,List.append_assoc];rw [e2,e]⟩)
 · exact (by simp only [encP,bytesOf_app,List.append_assoc] at he;have h1:=hA.cmp h v0.1 _ hw.1 he;obtain ⟨_,c0,e2⟩:=hA.snd h1;rw [he] at e2;obtain ⟨_,e3⟩:=hf _ _ _ _ hw.1 c0 e2;exact hB.cmp h1 v0.2 r hw.2 e3.symm)
theorem Got.map {α β:Type} {f:α->List Int} {g:β->List Int} {wf:α->Prop} {wg:β->Prop} {r0 r1:List Int} {b0 b1:Bool} {a:α} (φ:α->β) (hA:Got f wf r0 b0 a r1 b1) (he:∀a,wf a->g (φ a)=f a) (hw:∀a,wf a->wg (φ a)) (hs:∀b,wg b->∃a,wf a/\φ a=b):
    Got g wg r0 b0 (φ a) r1 b1:=by
  refine ⟨fun h=>?_,fun h v0 r c0 e=>?_,hA.len,hA.byt⟩
  · exact (by obtain ⟨h1,h2,h3⟩:=hA.snd h;exact ⟨h1,hw _ h2,by rw [he _ h2];exact h3⟩)
  · exact (by obtain ⟨a0,h1,rfl⟩:=hs _ c0;exact hA.cmp h a0 r h1 (by rw [he _ h1] at e;exact e))
theorem Pf.map {α β:Type} {f:α->List Int} {g:β->List Int} {wf:α->Prop} {wg:β->Prop} (φ:α->β) (hf:Pf f wf) (he:∀a,wf a->g (φ a)=f a) (hs:∀b,wg b->∃a,wf a/\φ a=b):Pf g wg:=by
  intro v v' r r' h h' e
  obtain ⟨a,ha,rfl⟩:=hs _ h
  obtain ⟨a',a0,rfl⟩:=hs _ h'
  rw [he _ ha,he _ a0] at e
  obtain ⟨rfl,e2⟩:=hf _ _ _ _ ha a0 e
  exact ⟨rfl,e2⟩
def wfN {α:Type} (wf:α->Prop) (i:Nat) (l:List α):Prop:=l.length=i/\∀x∈l,wf x
def encF {α:Type} (f:α->List Int) (l:List α):List Int:=l.flatMap f
theorem Pf.listN {α:Type} {f:α->List Int} {wf:α->Prop} (hf:Pf f wf) (n:Nat):Pf (encF f) (wfN wf n):=by
 induction n with
 |zero=>
  intro v v' r r' h h' e
  have h1:=List.eq_nil_of_length_eq_zero h.1
  have h2:=List.eq_nil_of_length_eq_zero h'.1
  subst h1;subst h2
  exact ⟨rfl,by simpa [encF,bytesOf] using e⟩
 |succ n ih=>
  intro v v' r r' h h' e
  cases v with
  |nil=>have:=h.1;simp at this
  |cons x v=>
   cases v' with
   |nil=>have:=h'.1;simp at this
   |cons x' v'=>
    simp only [encF,List.flatMap_cons,bytesOf_app,List.append_assoc] at e
    obtain ⟨rfl,e2⟩:=hf _ _ _ _ (h.2 x (by simp)) (h'.2 x' (by simp)) e
    obtain ⟨rfl,e3⟩:=ih v v' r r' ⟨by have:=h.1;simp at this;exact this,fun y hy=>h.2 y (by simp [hy])⟩ ⟨by have:=h'.1;simp at this;exact this,fun y hy=>h'.2 y (by simp [hy])⟩ e2
    exact ⟨rfl,e3⟩
theorem Got.none {α:Type} {f:α->List Int} {wf:α->Prop} (r:List Int) (b:Bool):Got (encF f) (wfN wf 0) r b [] r b:=
  ⟨fun h=>⟨h,⟨rfl,fun _ hx=>by cases hx⟩,rfl⟩,fun h _ _ _ _=>h,Nat.le_refl _,fun h=>h⟩
theorem Got.snoc {α:Type} {f:α->List Int} {wf:α->Prop} {i:Nat} {r0 r1 r2:List Int} {b0 b1 b2:Bool} {l:List α} {x:α} (hf:Pf f wf) (hA:Got (encF f) (wfN wf i) r0 b0 l r1 b1) (hB:Got f wf r1 b1 x r2 b2):
  Got (encF f) (wfN wf (i+1)) r0 b0 (l++[x]) r2 b2:=by
 refine (Got.pair (hf.listN i) hA hB).map (g:=encF f) (wg:=wfN wf (i+1)) (fun p=>p.1++[p.2]) (fun a _=>by simp [encF,encP]) (fun a ha=>?_) (fun l hl=>?_)
 ·refine ⟨by simp [ha.1.1],fun y hy=>?_⟩
  rcases List.mem_append.1 hy with h|h
  ·exact ha.1.2 y h
  ·simp at h;subst h;exact ha.2
 · exact (by have a0:l≠[]:=(by intro h;subst h;have:=hl.1;simp at this);refine ⟨(l.dropLast,l.getLast a0),⟨⟨by simp [hl.1],fun y hy=>hl.2 y (List.dropLast_subset l hy)⟩,hl.2 _ (List.getLast_mem a0)⟩,List.dropLast_concat_getLast a0⟩)
theorem Got.any {α:Type} {f:α->List Int} {wf:α->Prop} {r0 r1:List Int} {b0:Bool} {v:α} (h:Got f wf r0 b0 v r1 true) (v':α):Got f wf r0 b0 v' r1 true:=
  ⟨(fun h=>nomatch h),h.cmp,h.len,h.byt⟩
structure GotC (size:Nat) (r0:List Int) (b0:Bool) (n:Int) (r1:List Int) (b1:Bool):Prop where
  snd:b1=false->b0=false/\r0=be8 n++r1
  cmp:b0=false->∀(n0:Nat) r,WfI n0->r0=be8 n0++r->n0*(8*size)<=r.length->b1=false
  len:r1.length<=r0.length
  byt:Bytes r0->Bytes r1
  rng:0<=n/\8*n<=r1.length/\WfI n
def encL {α:Type} (f:α->List Int) (l:List α):List Int:=(l.length:Int)::l.flatMap f
def wfL {α:Type} (wf:α->Prop) (l:List α):Prop:=WfI l.length/\∀x∈l,wf x
theorem Pf.list {α:Type} {f:α->List Int} {wf:α->Prop} (hf:Pf f wf):Pf (encL f) (wfL wf):=by
  intro v v' r r' h h' e
  simp only [encL,bytesOf_cons,List.append_assoc] at e
  obtain ⟨e1,e2⟩:=be8_pf h.1 h'.1 e
  exact hf.listN v.length _ _ _ _ ⟨rfl,h.2⟩ ⟨by omega,h'.2⟩ e2
theorem flat_ge {α:Type} {f:α->List Int} {size:Nat} (hs:∀x,size<=(f x).length) (l:List α):l.length*size<=(l.flatMap f).length:=by
  induction l with
  |nil=>simp
  |cons x l ih=>have:=hs x;simp only [List.flatMap_cons,List.length_append,List.length_cons,Nat.add_mul,Nat.one_mul];omega
theorem Got.list {α:Type} {f:α->List Int} {wf:α->Prop} {size:Nat} {r0 rc r1:List Int} {b0 bc b1:Bool} {n:Int} {l:List α} (hs:∀x,size<=(f x).length) (hC:GotC size r0 b0 n rc bc) (hA:Got (encF f) (wfN wf n.toNat) rc bc l r1 b1):
  Got (encL f) (wfL wf) r0 b0 l r1 b1:=by
 refine ⟨fun h=>?_,fun h v0 r hw he=>?_,Nat.le_trans hA.len hC.len,fun h=>hA.byt (hC.byt h)⟩
 · exact (by obtain ⟨h1,⟨h2,h3⟩,e⟩:=hA.snd h;obtain ⟨h4,e2⟩:=hC.snd h1;have hn:(l.length:Int)=n:=(by have:=hC.rng;omega);exact ⟨h4,⟨by rw [hn];exact hC.rng.2.2,h3⟩,(by rw [encL,bytesOf_cons,hn,List.append_assoc,e2,e];rfl)⟩)
 ·simp only [encL,bytesOf_cons,List.append_assoc] at he
  have hl:=flat_ge hs v0
  have h1:=hC.cmp h v0.length _ hw.1 he (by
   rw [List.length_append,bytesOf_len]
   have:v0.length*(8*size)=8*(v0.length*size):=by rw [Nat.mul_left_comm]
   omega)
  obtain ⟨_,e2⟩:=hC.snd h1
  rw [he] at e2
  obtain ⟨e3,e4⟩:=be8_pf hw.1 hC.rng.2.2 e2
  exact hA.cmp h1 v0 r ⟨om,hw.2⟩ e4.symm
theorem nInts_enc (l:List Int):nInts l=encL encN l:=by
  simp only [nInts,encL]
  rw [show l.flatMap encN=l from flat_one l]
def wfTap (t:TapV):Prop:=WfI t.first/\wfL WfI t.weights
def wfOp (p:POp):Prop:=WfI p.code/\WfI p.arg
theorem pfN:Pf (encL encN) (wfL WfI):=pfI.list
theorem pfTap:Pf nTap wfTap:=(pfI.pair pfN).map (fun p=>(⟨p.1,p.2⟩:TapV)) (fun a _=>by simp [nTap,nInts_enc,encP,encN]) (fun b h=>⟨(b.first,b.weights),h,rfl⟩)
theorem Got.op {r0 r1 r2:List Int} {b0 b1 b2:Bool} {v u:Int} (hA:Got encN WfI r0 b0 v r1 b1) (hB:Got encN WfI r1 b1 u r2 b2):Got nOp wfOp r0 b0 ⟨v,u⟩ r2 b2:=
  (Got.pair pfI hA hB).map (fun p=>(⟨p.1,p.2⟩:POp)) (fun a _=>by simp [nOp,encP,encN]) (fun a h=>h) (fun b h=>⟨(b.code,b.arg),h,rfl⟩)
theorem pfOp:Pf nOp wfOp:=(pfI.pair pfI).map (fun p=>(⟨p.1,p.2⟩:POp)) (fun a _=>by simp [nOp,encP,encN]) (fun b h=>⟨(b.code,b.arg),h,rfl⟩)
def encBo (b:Bool):List Int:=[nBool b]
def wfBo (_:Bool):Prop:=True
theorem nBool_wf (b:Bool):WfI (nBool b):=by cases b<;>simp [nBool,WfI]
theorem nBool_inj {b c:Bool} (h:nBool b=nBool c):b=c:=by cases b<;>cases c<;>simp [nBool] at h⊢
theorem bytes_encBo (b:Bool):bytesOf (encBo b)=be8 (nBool b):=by simp [bytesOf,encBo]
theorem pfBo:Pf encBo wfBo:=by
  intro v v' r r' _ _ e
  rw [bytes_encBo,bytes_encBo] at e
  obtain ⟨h1,h2⟩:=be8_pf (nBool_wf v) (nBool_wf v') e
  exact ⟨nBool_inj h1,h2⟩
theorem Got.bool {r0 r1:List Int} {b0 b1:Bool} {n:Int} (v:Bool) (h:Got encN WfI r0 b0 n r1 b1) (hn:n=nBool v):Got encBo wfBo r0 b0 v r1 b1:=by
  subst hn
  refine ⟨fun hb=>?_,fun hb v0 r _ he=>h.cmp hb (nBool v0) r (nBool_wf v0) (by rw [bytes_encN,<-bytes_encBo];exact he),h.len,h.byt⟩
  obtain ⟨h1,_,h3⟩:=h.snd hb
  exact ⟨h1,trivial,by rw [bytes_encBo,<-bytes_encN];exact h3⟩
def wfStage (s:StageV):Prop:=WfI s.kind/\WfI s.a/\WfI s.b/\wfBo s.barrier/\WfI s.edgePolicy/\WfI s.edgeFill/\WfI s.kW/\WfI s.kH/\(wfL WfI) s.weights/\(wfL WfI) s.row/\(wfL WfI) s.col/\WfI s.shift/\WfI s.shift2/\(wfL wfTap) s.x/\(wfL wfTap) s.y/\WfI s.bins/\(wfL wfOp) s.ops/\WfI s.max_
theorem Got.stage {r0 r1 r2 r3 r4 r5 r6 r7 r8 r9 r10 r11 r12 r13 r14 r15 r16 r17 r18:List Int} {b0 b1 b2 b3 b4 b5 b6 b7 b8 b9 b10 b11 b12 b13 b14 b15 b16 b17 b18:Bool} {v0:Int} {v1:Int} {v2:Int} {v3:Bool} {v4:Int} {v5:Int} {v6:Int} {v7:Int} {v8:List Int} {v9:List Int} {v10:List Int} {v11:Int} {v12:Int} {v13:List TapV} {v14:List TapV} {v15:Int} {v16:List POp} {v17:Int} (h0:Got encN WfI r0 b0 v0 r1 b1) (h1:Got encN WfI r1 b1 v1 r2 b2) (h2:Got encN WfI r2 b2 v2 r3 b3) (h3:Got encBo wfBo r3 b3 v3 r4 b4) (h4:Got encN WfI r4 b4 v4 r5 b5) (h5:Got encN WfI r5 b5 v5 r6 b6) (h6:Got encN WfI r6 b6 v6 r7 b7) (h7:Got encN WfI r7 b7 v7 r8 b8) (h8:Got (encL encN) (wfL WfI) r8 b8 v8 r9 b9) (h9:Got (encL encN) (wfL WfI) r9 b9 v9 r10 b10) (h10:Got (encL encN) (wfL WfI) r10 b10 v10 r11 b11) (h11:Got encN WfI r11 b11 v11 r12 b12) (h12:Got encN WfI r12 b12 v12 r13 b13) (h13:Got (encL nTap) (wfL wfTap) r13 b13 v13 r14 b14) (h14:Got (encL nTap) (wfL wfTap) r14 b14 v14 r15 b15) (h15:Got encN WfI r15 b15 v15 r16 b16) (h16:Got (encL nOp) (wfL wfOp) r16 b16 v16 r17 b17) (h17:Got encN WfI r17 b17 v17 r18 b18):Got nStage wfStage r0 b0 ⟨v0,v1,v2,v3,v4,v5,v6,v7,v8,v9,v10,v11,v12,v13,v14,v15,v16,v17⟩ r18 b18:=by
 exact (Got.map (g:=nStage) (wg:=wfStage) (fun p:(Int)×(Int)×(Int)×(Bool)×(Int)×(Int)×(Int)×(Int)×(List Int)×(List Int)×(List Int)×(Int)×(Int)×(List TapV)×(List TapV)×(Int)×(List POp)×(Int)=>(⟨p.1,p.2.1,p.2.2.1,p.2.2.2.1,p.2.2.2.2.1,p.2.2.2.2.2.1,p.2.2.2.2.2.2.1,p.2.2.2.2.2.2.2.1,p.2.2.2.2.2.2.2.2.1,p.2.2.2.2.2.2.2.2.2.1,p.2.2.2.2.2.2.2.2.2.2.1,p.2.2.2.2.2.2.2.2.2.2.2.1,p.2.2.2.2.2.2.2.2.2.2.2.2.1,p.2.2.2.2.2.2.2.2.2.2.2.2.2.1,p.2.2.2.2.2.2.2.2.2.2.2.2.2.2.1,p.2.2.2.2.2.2.2.2.2.2.2.2.2.2.2.1,p.2.2.2.2.2.2.2.2.2.2.2.2.2.2.2.2.1,p.2.2.2.2.2.2.2.2.2.2.2.2.2.2.2.2.2⟩:StageV)) (Got.pair pfI h0 (Got.pair pfI h1 (Got.pair pfI h2 (Got.pair pfBo h3 (Got.pair pfI h4 (Got.pair pfI h5 (Got.pair pfI h6 (Got.pair pfI h7 (Got.pair pfN h8 (Got.pair pfN h9 (Got.pair pfN h10 (Got.pair pfI h11 (Got.pair pfI h12 (Got.pair pfTap.list h13 (Got.pair pfTap.list h14 (Got.pair pfI h15 (Got.pair pfOp.list h16 h17))))))))))))))))) (fun p _=>by simp [nStage,nInts_enc,encP,encN,encBo,encL,nTaps,nOps]) (fun p h=>h) (fun s h=>⟨(s.kind,s.a,s.b,s.barrier,s.edgePolicy,s.edgeFill,s.kW,s.kH,s.weights,s.row,s.col,s.shift,s.shift2,s.x,s.y,s.bins,s.ops,s.max_),h,rfl⟩))
theorem r4_same (ax:Option Addr) (nx kx:Nat) (x:List Int) (ay:Option Addr) (ny ky:Nat) (y:List Int) (hx:RdT Go.E.encI 1 [H] ax nx kx x) (hy:RdT Go.E.encI 1 [H] ay ny ky y) (hS:Sat W w (H::F)):
  Ro prog 27 #[.slice ax nx kx, .slice ay ny ky] (.bool (decide (x=y))) W w (H::F):=by
 have n0:=hx.ll
 have s0:=hy.ll
 refine callsK 26 func27 rfl<|jCC 15 rfl<|CN (nx:Int) (ny:Int) (fun e0=>jCR 7 rfl<|retT [.bool false]<|⟨by rw [decide_eq_false (fun h=>by have:=congrArg List.length h;omega)];rfl,hS⟩) fun e0=>jCC 9 rfl<|loopF [0,1] (γ:=Nat) (fun i R=>⟨[(5,I (i:Int))],R,nx-i,i<=nx/\(x.take i=y.take i)⟩) 0 ⟨hS,om,by simp⟩ ?_
 rintro i ρ _ ⟨c0,hi,hE⟩
 refine jCC 9 rfl<|CD ((i:Int)<(nx:Int)) (fun f0=>jCR 11 rfl<|retT [.bool true]<|⟨by rw [decide_eq_true (eq_of_take hE om om)];rfl,c0⟩) fun f0=>jCC 5 rfl ?_
 obtain ⟨g0,o0,p0,a0,h0,i0⟩:=RdT.eN hx i
 obtain ⟨j0,q0,r0,b0,k0,l0⟩:=RdT.eN hy i
 exact drawF c0 [] (fq 3 0 (h0.up 0 rfl)<|fq 7 0 (k0.up 0 rfl)<|fn) [0,1,2,4,5,6,3,7,8] fun _ d0=>wV 2<|wI i0<|wV 2<|wI l0<|wL 0<|wL 1<|wV 1<|wN<|jXC 1 rfl<|CN g0 j0 (fun m0=>jCR 11 rfl<|retT [.bool false]<|⟨by rw [decide_eq_false (ne_of_at a0 b0 om)];rfl,d0⟩) fun m0=>jCO 5 rfl<|sAdd (i:Int) 1<|jOI 2 rfl<|⟨i+1,od,alB,d0,om,take_eq_succ hE a0 b0 om⟩
theorem r4_equal (p:Plane) (q:Plane) (hp:Plane.Ok [H] p) (hq:Plane.Ok [H] q) (hS:Sat W w (H::F)):
  Ro prog 28 #[.agg (encPlane p).toArray, .agg (encPlane q).toArray] (.bool (decide (p.v=q.v))) W w (H::F):=by
 have d0:=hp.pix.ll
 have f0:=hq.pix.ll
 exact callsK 31 func28 rfl<|jCO 2 rfl<|sBx hS (encPlane p) fun _ _ b0=>sBx b0 (encPlane q) fun _ _ a0=>gOO a0 11 [1,0] rfl<|SE 10 p.w q.w (fun c0=>jOR 24 rfl<|retT [.bool false]<|⟨rB (by first|(rw [Bool.eq_iff_iff];simp [Plane.v, *];done)|(simp [Plane.v, *];done)|(exact (decide_eq_false (fun h=>by simp_all [Plane.v])).symm)|(exact (decide_eq_true (by simp_all [Plane.v])).symm)),(a0.drops [0,0])⟩) fun c0=>gOO a0 7 [1,0] rfl<|SE 17 p.h q.h (fun e0=>jOR 17 rfl<|retT [.bool false]<|⟨rB (by first|(rw [Bool.eq_iff_iff];simp [Plane.v, *];done)|(simp [Plane.v, *];done)|(exact (decide_eq_false (fun h=>by simp_all [Plane.v])).symm)|(exact (decide_eq_true (by simp_all [Plane.v])).symm)),(a0.drops [0,0])⟩) fun e0=>gOO a0 7 [1,0] rfl<|SE 24 p.max_ q.max_ (fun g0=>jOR 10 rfl<|retT [.bool false]<|⟨rB (by first|(rw [Bool.eq_iff_iff];simp [Plane.v, *];done)|(simp [Plane.v, *];done)|(exact (decide_eq_false (fun h=>by simp_all [Plane.v])).symm)|(exact (decide_eq_true (by simp_all [Plane.v])).symm)),(a0.drops [0,0])⟩) fun g0=>gOO a0 4 [1,0] rfl<|gY<|cS (r4_same p.pix.a p.pix.n p.pix.k p.pix.l q.pix.a q.pix.n q.pix.k q.pix.l (hp.pix.fl 2) (hq.pix.fl 2) a0.flat) fun _ i0=>jOR 5 rfl<|retT [.bool (decide (p.pix.l=q.pix.l))]<|⟨rB (by first|(rw [Bool.eq_iff_iff];simp [Plane.v, *];done)|(simp [Plane.v, *];done)|(exact (decide_eq_false (fun h=>by simp_all [Plane.v])).symm)|(exact (decide_eq_true (by simp_all [Plane.v])).symm)),(i0.drops [0,0])⟩
theorem eqvn49 (w:World) (a0 a1 b0 b1:Int):∀x y,((do eqGuard .neq 49 x y (.agg #[.int .i64 a0, .int .i64 a1]) (.agg #[.int .i64 b0, .int .i64 b1]);binOp .neq 49 (.agg #[.int .i64 a0, .int .i64 a1]) (.agg #[.int .i64 b0, .int .i64 b1])):Sem Value).run prog w= .ok (.bool (!((a0==b0)&&(a1==b1)))) w:=by
  intro x y
  simp [go_sem,run_eqGuard_agg,run_neq_struct,run_equalIn_agg]
  by_cases h0:a0=b0<;>by_cases h1:a1=b1<;>simp [*]
theorem eqve49 (w:World) (a0 a1 b0 b1:Int):∀x y,((do eqGuard .eql 49 x y (.agg #[.int .i64 a0, .int .i64 a1]) (.agg #[.int .i64 b0, .int .i64 b1]);binOp .eql 49 (.agg #[.int .i64 a0, .int .i64 a1]) (.agg #[.int .i64 b0, .int .i64 b1])):Sem Value).run prog w= .ok (.bool ((a0==b0)&&(a1==b1))) w:=by
  intro x y
  simp [go_sem,run_eqGuard_agg,run_eql_struct,run_equalIn_agg]
  by_cases h0:a0=b0<;>by_cases h1:a1=b1<;>simp [*]
end Go.Proofs.YtghcddbhllkbmaaGreat

namespace Go.E
section
variable {P:Program} {ρ:Env} {w:World} {o:Oper}
theorem Y_shrS {t u:TypeId} {x y:Operand} {k':IntKind} (a s:Int) (ho:o.op= .binOp .shr t x y u) (hx:ev ρ x= .int .i64 a) (hy:ev ρ y= .int k' s) (hs:0<=s/\s<=60):
    Yields P ρ o (.int .i64 (a/2^s.toNat)) w:=by
  have h1:min s.toNat IntKind.i64.bits=s.toNat:=by simp [IntKind.bits];omega
  exact Y_shr .i64 k' a s _ ho hx hy hs.1 (by rw [h1])
end
end Go.E
namespace Go.E
def encKB (x:Bool):List Value:=[.bool x]
end Go.E
