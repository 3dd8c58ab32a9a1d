import Derived.Test.YtkadmghedmodbaaGreatProg
import Derived.Test.YtkadmghedmodbaaGreatR4P3Short
set_option linter.all false
namespace Go.E
set_option linter.unusedVariables false
abbrev nS:Value:= .slice none 0 0
theorem rB {a b:Bool} (h:a=b):Ending.returned (.bool a)= .returned (.bool b):=congrArg (fun b=>Ending.returned (.bool b)) h
theorem bn {a b:Bool} (h:a=b:=by rw [Bool.eq_iff_iff];simp only [decide_eq_true_eq,beq_iff_eq,bne_iff_ne,ne_eq,Bool.not_eq_true',decide_eq_false_iff_not,gt_iff_lt,ge_iff_le,Bool.and_eq_true,Bool.or_eq_true,Bool.not_eq_eq_eq_not,Bool.not_true,Bool.and_eq_false_imp,beq_eq_false_iff_ne]<;>(first|omega|(simp_all;done)|(simp_all<;>omega)|(constructor<;>intro h_<;>simp_all<;>omega))):a=b:=h
theorem rN {α:Type} {enc:α->List Value} {sz:Nat} {cs:List Chunk} (he:∀x,(enc x).length=sz:=by intro _;rfl):RdT enc sz cs none 0 0 []:=RdT.nil he cs
theorem bs {a b:Bool} (h:a=b:=by rw [Bool.eq_iff_iff];simp_all):a=b:=h
section
variable {P:Program} {n:Nat} {ρ:Env} {W w:World} {cs:List Chunk} {ops:Array Oper} {rest:List Oper} {N:Env->World->Prop} {K:Exit->Env->World->Prop}
theorem cI {A:Prop} {b off:Nat} {c:Array Value} {E:TypeId} {f:Nat×Nat} {v:Value} (h:Sat W w cs) (i:Nat) (hi:cs[i]?=some [(b, .cells c E f)]:=by rfl) (hv:c[off]?=some v:=by rfl):A\/w.cell? ⟨b,off,none⟩=some v:= .inr (h.cell i hi hv)
theorem zS {K2:Exit->Env->World->Prop} {id:Nat} {l:List Oper} {y:Code} (h:OpsE P n l.toArray l (thenK (CodeE P n y K) K .normal) ρ w):OpsE P n ops [] (thenK (CodeE P n (.seq (.region id l.toArray false) y) K) K2 .normal) ρ w:=nT (sR h)
theorem zE {K2:Exit->Env->World->Prop} (h:K .ret ρ w):OpsE P n ops [] (thenK (CodeE P n .ret K) K2 .normal) ρ w:=nT (retE h)
theorem zR {N2:Env->World->Prop} {K2:Exit->Env->World->Prop} (h:K .ret ρ w):OpsE P n ops [] (thenK (CodeE P n .ret (thenK N2 K)) K2 .normal) ρ w:=nT (retE (thenK_r h))
theorem zB {N2:Env->World->Prop} {id:Nat} {K2:Exit->Env->World->Prop} (h:K .ret ρ w):OpsE P n ops [] (thenK (CodeE P n .ret (blockK id (thenK N2 K))) K2 .normal) ρ w:=nT (retE (blockK_r (thenK_r h)))
theorem zQ {K2:Exit->Env->World->Prop} {id:Nat} {l:List Oper} {y z:Code} (h:OpsE P n l.toArray l (thenK (CodeE P n y (thenK (CodeE P n z K) K)) (thenK (CodeE P n z K) K) .normal) ρ w):OpsE P n ops [] (thenK (CodeE P n (.seq (.seq (.region id l.toArray false) y) z) K) K2 .normal) ρ w:=nT (seqE (sR h))
theorem zC {K2:Exit->Env->World->Prop} {id:Nat} {l:List Oper} {c:Operand} {y z:Code} (h:OpsE P n l.toArray l (thenK (CodeE P n y K) K .normal) ρ w) (hc:ev ρ c= .bool true:=by kernel_rfl):OpsE P n ops [] (thenK (CodeE P n (.cond c (.seq (.region id l.toArray false) y) z) K) K2 .normal) ρ w:=nT (cTt (sR h) hc)
theorem kS {id:Nat} {l:List Oper} {y:Code} {K2:Exit->Env->World->Prop} (h:OpsE P n l.toArray l (thenK (CodeE P n y K) K .normal) ρ w):CodeE P n .skip (thenK (CodeE P n (.seq (.region id l.toArray false) y) K) K2) ρ w:=kT (sR h)
theorem rE {id:Nat} {l:List Oper} (h:OpsE P n l.toArray l (K .normal) ρ w):CodeE P n (.region id l.toArray false) K ρ w:=regionE h
theorem tN {N:Env->World->Prop} (h:N ρ w):thenK N K .normal ρ w:=h
theorem tK {N:Env->World->Prop} (h:K .ret ρ w):thenK N K .ret ρ w:=h
theorem bN {id:Nat} (h:K .normal ρ w):blockK id K .normal ρ w:=h
theorem sTl {o:Oper} (hS:Sat W w cs) (i:Nat) (l:List Value) {t:TypeId} {x y:Operand} {b k:Nat} {c:Array Value} {E:TypeId} (hsz:∀w,(sizeOf t).run P w= .ok k w)
    (h:∀w',Sat W w' (cs.set i [(b, .cells l.toArray E (0,0))])->OpsE P n ops rest N ρ w')
    (ho:o.op= .store t x y:=by rfl) (hg:o.guard=none:=by rfl) (hd:o.dst=none:=by rfl) (hi:cs[i]?=some [(b, .cells c E (0,0))]:=by rfl)
    (hx:ev ρ x= .pointer (some ⟨b,0,none⟩):=by kernel_rfl) (hy:ev ρ y= .agg l.toArray:=by kernel_rfl) (hv:(Value.agg l.toArray).cells.toList=l:=by kernel_rfl) (hk:l.length=k:=by kernel_rfl)
    (h1:l.all (·.oneCell')=true:=by kernel_rfl) (hfit:Nat.ble (0+l.length) c.size=true:=by kernel_rfl) (hc':wr c 0 l=l.toArray:=by kernel_rfl):OpsE P n ops (o::rest) N ρ w:=
  sT hS i 0 (.agg l.toArray) l l.toArray hsz h ho hg hd hi hx hy hv hk h1 hfit hc'
theorem retC {fn:Func} {R:Ending->World->Prop} (hS:Sat W w cs) (i:Nat) (l:List Value) (v:Value) {t:TypeId} {k b:Nat} {c:Array Value} {E:TypeId} {f:Nat×Nat} {r1 r2:Tmp} (hag:(isAgg t).run P w= .ok true w) (hsz:(sizeOf t).run P w= .ok k w)
    (h:R (.returned (packed [.agg l.toArray,v])) w) (hr:fn.results=#[.cell r1 t, .tmp r2]:=by rfl) (h1:ρ r1= .pointer (some ⟨b,0,none⟩):=by kernel_rfl) (hi:cs[i]?=some [(b, .cells c E f)]:=by rfl) (hk:l.length=k:=by rfl)
    (hv:(c.toList.drop 0).take l.length=l:=by rfl) (h2:ρ r2=v:=by kernel_rfl):retK P fn R .ret ρ w:=
  retN (rs:=[.cell r1 t, .tmp r2]) hr (.cons (.cell _ _ _ _ h1 (lvA hS i 0 l hag hsz hi hk hv)) (.cons (.tmp _ _ h2) .nil)) h
section
variable {o:Oper} {x y:Code} {c:Operand}
theorem CD (p:Prop) [Decidable p] (h2:¬p->CodeE P n y K ρ w) (h1:p->CodeE P n x K ρ w) (hc:ev ρ c= .bool (decide p):=by kernel_rfl):CodeE P n (.cond c x y) K ρ w:=cD p h1 h2 hc
theorem SD (d:Nat) (p:Prop) [Decidable p] (h2:¬p->OpsE P n ops rest N (upd ρ d (.bool false)) w) (h1:p->OpsE P n ops rest N (upd ρ d (.bool true)) w) (hd:ρ d= .bool (decide p):=by kernel_rfl):OpsE P n ops rest N ρ w:=sD d p h1 h2 hd
theorem CDn (p:Prop) [Decidable p] (h2:¬p->CodeE P n x K ρ w) (h1:p->CodeE P n y K ρ w) (hc:ev ρ c= .bool (!(decide p)):=by kernel_rfl):CodeE P n (.cond c x y) K ρ w:=cDn p h1 h2 hc
theorem CE (a b:Int) (h2:¬(a=b)->CodeE P n y K ρ w) (h1:a=b->CodeE P n x K ρ w) (hc:ev ρ c= .bool (a==b):=by kernel_rfl):CodeE P n (.cond c x y) K ρ w:=cE a b h1 h2 hc
theorem SE (d:Nat) (a b:Int) (h2:¬(a=b)->OpsE P n ops rest N (upd ρ d (.bool false)) w) (h1:a=b->OpsE P n ops rest N (upd ρ d (.bool true)) w) (hd:ρ d= .bool (a==b):=by kernel_rfl):OpsE P n ops rest N ρ w:=sE d a b h1 h2 hd
theorem CN (a b : Int) (h2 : ¬ (a = b) -> CodeE P n x K ρ w) (h1 : a = b -> CodeE P n y K ρ w) (hc : ev ρ c = .bool (a != b) := by kernel_rfl) : CodeE P n (.cond c x y) K ρ w := cN a b h1 h2 hc
theorem SN (d : Nat) (a b : Int) (h2 : ¬ (a = b) -> OpsE P n ops rest N (upd ρ d (.bool true)) w) (h1 : a = b -> OpsE P n ops rest N (upd ρ d (.bool false)) w) (hd : ρ d = .bool (a != b) := by kernel_rfl) : OpsE P n ops rest N ρ w := sN d a b h1 h2 hd
theorem CB (t:Bool) (h2:¬(t=true)->CodeE P n y K ρ w) (h1:t=true->CodeE P n x K ρ w) (hc:ev ρ c= .bool (t):=by kernel_rfl):CodeE P n (.cond c x y) K ρ w:=cB t h1 h2 hc
theorem SB (d:Nat) (t:Bool) (h2:¬(t=true)->OpsE P n ops rest N (upd ρ d (.bool false)) w) (h1:t=true->OpsE P n ops rest N (upd ρ d (.bool true)) w) (hd:ρ d= .bool (t):=by kernel_rfl):OpsE P n ops rest N ρ w:=sB d t h1 h2 hd
theorem CBn (t:Bool) (h2:¬(t=true)->CodeE P n x K ρ w) (h1:t=true->CodeE P n y K ρ w) (hc:ev ρ c= .bool (!(t)):=by kernel_rfl):CodeE P n (.cond c x y) K ρ w:=cBn t h1 h2 hc
theorem SBn (d:Nat) (t:Bool) (h2:¬(t=true)->OpsE P n ops rest N (upd ρ d (.bool true)) w) (h1:t=true->OpsE P n ops rest N (upd ρ d (.bool false)) w) (hd:ρ d= .bool (!(t)):=by kernel_rfl):OpsE P n ops rest N ρ w:=sBn d t h1 h2 hd
end
theorem bC (p:Prop) {G:Prop} (h2:¬p->G) (h1:p->G):G:=(Classical.em p).elim h1 h2
theorem bD (p:Prop) {G:Prop} (h1:p->G) (h2:¬p->G):G:=(Classical.em p).elim h1 h2
end
section
variable {α:Type} {enc:α->List Value} {sz:Nat} {a:Option Addr} {len cap:Nat} {xs:List α} {c:Chunk} {E:Nat} {P:Program} {n:Nat} {ρ:Env} {W w:World} {cs:List Chunk} {ops:Array Oper} {rest:List Oper} {N:Env->World->Prop} {o:Oper} {t:TypeId} {x y:Operand} {f:FuncId} {os:Array Operand} {ats:Array TypeId} {args:Array Value} {v:Value}
theorem mF {c:Chunk} (i:Nat) (h:cs[i]?=some c:=by rfl):∀p∈[c].flatten,p∈[cs.flatten].flatten:=mem_flat1 i h
theorem RdT.fl {c:Chunk} (h:RdT enc sz [c] a len cap xs) (i:Nat) (hi:cs[i]?=some c:=by rfl):RdT enc sz [cs.flatten] a len cap xs:=RdT.flat (h.up i hi)
theorem RdT.eN (hR:RdT enc sz cs a len cap xs) (i:Nat) (h1:i<len:=by first|omega|decide):∃x b off,xs[i]?=some x/\PtR cs b off (enc x)/\ElemAt a (i:Int) len sz b off:=RdT.elem hR (i:Int) (by omega) (by omega)
theorem OwnT.eN (hO:OwnT enc E sz a len cap xs c) (i:Nat) (h1:i<len:=by first|omega|decide):∃x b off,xs[i]?=some x/\PtR [c] b (off+i*sz) (enc x)/\ElemAt a (i:Int) len sz b (off+i*sz)/\a=some ⟨b,off,none⟩:=OwnT.elem hO (i:Int) (by omega) (by omega)
theorem sII (hR:RdT enc sz cs a len cap xs) (i:Int) (h:∀x b off,xs[i.toNat]?=some x->PtR cs b off (enc x)->OpsE P n ops rest N (put ρ o.dst (.pointer (some ⟨b,off,none⟩))) w) (h0:0<=i:=by omega) (h1:i<len:=by first|omega|decide)
    (ho:o.op= .indexAddr t x y:=by rfl) (hg:o.guard=none:=by rfl) (hd:dstOK n o.dst=true:=by rfl) (hk:okI P t sz=true:=by kernel_rfl) (hx:ev ρ x= .slice a len cap:=by kernel_rfl) (hy:ev ρ y= .int .i64 i:=by kernel_rfl):OpsE P n ops (o::rest) N ρ w:=by
  obtain ⟨E,h2,h3⟩:=okI_spec hk
  exact sIdx hR i h2 h3 h h0 h1 ho hg hd hx hy
theorem sIN (hR:RdT enc sz cs a len cap xs) (i:Nat) (h:∀x b off,xs[i]?=some x->PtR cs b off (enc x)->OpsE P n ops rest N (put ρ o.dst (.pointer (some ⟨b,off,none⟩))) w) (h1:i<len:=by first|omega|decide)
    (ho:o.op= .indexAddr t x y:=by rfl) (hg:o.guard=none:=by rfl) (hd:dstOK n o.dst=true:=by rfl) (hk:okI P t sz=true:=by kernel_rfl) (hx:ev ρ x= .slice a len cap:=by kernel_rfl) (hy:ev ρ y= .int .i64 (i:Int):=by kernel_rfl):OpsE P n ops (o::rest) N ρ w:=
  sII hR (i:Int) h (by omega) (by omega) ho hg hd hk hx hy
theorem sIO (hO:OwnT enc E sz a len cap xs c) (i:Int) (k:Nat) (h:∀x b off,xs[k]?=some x->PtR [c] b (off+k*sz) (enc x)->a=some ⟨b,off,none⟩->OpsE P n ops rest N (put ρ o.dst (.pointer (some ⟨b,off+k*sz,none⟩))) w) (h0:0<=i:=by omega) (h1:i<len:=by first|omega|decide)
    (ho:o.op= .indexAddr t x y:=by rfl) (hg:o.guard=none:=by rfl) (hd:dstOK n o.dst=true:=by rfl) (hq:okI P t sz=true:=by kernel_rfl) (hx:ev ρ x= .slice a len cap:=by kernel_rfl) (hy:ev ρ y= .int .i64 i:=by kernel_rfl) (hk:i.toNat=k:=by first|rfl|omega):OpsE P n ops (o::rest) N ρ w:=by
  subst hk
  have hl:i.toNat<xs.length:=by rw [hO.1];omega
  have hR:RdT enc sz [c] a len cap xs:=hO.rdAt 0 rfl
  obtain ⟨x',b,off,h2,h3,h4,h5⟩:=OwnT.elem hO i h0 h1
  obtain ⟨E',h6,h7⟩:=okI_spec hq
  exact stepY _ hg hd (Y_idx ho h6 h7 hx hy h4) (h x' b off h2 h3 h5)
theorem cal (hc:pureRun P (callFunc f args)=some (.enter f args)) (w:World):(callFunc f args).run P w= .ok (.enter f args) w:=pureRun_run P _ _ hc w
theorem cZ {R:Ending->World->Prop} (hq:Calls P f args w R) (h:∀e w',R e w'->onRet e fun v=>OpsE P n ops rest N (put ρ o.dst v) w')
    (ho:o.op= .call {callee:= .value (.func f),args:=os,argTypes:=ats}:=by rfl) (hg:o.guard=none:=by rfl) (hd:dstOK n o.dst=true:=by rfl) (hc:pureRun P (callFunc f args)=some (.enter f args):=by kernel_rfl) (hargs:os.map (ev ρ)=args:=by kernel_rfl):OpsE P n ops (o::rest) N ρ w:=by
  refine stepCall hg hd ?_ (hq.mono fun e w' he=>(h e w' he).ex)
  unfold execOp
  rw [ho]
  simp [resolve,ev,Deferred.ofValue,invoke,hargs,cal hc]
theorem cS (hq:Calls P f args w fun e w'=>e= .returned v/\Sat W w' [cs.flatten]) (h:∀w',Sat W w' cs->OpsE P n ops rest N (put ρ o.dst v) w')
    (ho:o.op= .call {callee:= .value (.func f),args:=os,argTypes:=ats}:=by rfl) (hg:o.guard=none:=by rfl) (hd:dstOK n o.dst=true:=by rfl) (hc:pureRun P (callFunc f args)=some (.enter f args):=by kernel_rfl) (hargs:os.map (ev ρ)=args:=by kernel_rfl):OpsE P n ops (o::rest) N ρ w:=
  cZ (hq.mono fun e w' he=>(⟨v,he.1,h w' (Sat.unflat he.2)⟩:∃v,e= .returned v/\OpsE P n ops rest N (put ρ o.dst v) w')) (fun e w' ⟨v,h1,h2⟩=>by subst h1;exact h2) ho hg hd hc hargs
theorem sBx (hS:Sat W w cs) (l:List Value) (h:∀b w',Sat W w' ([(b, .cells l.toArray t (0,0))]::cs)->OpsE P n ops rest N (put ρ o.dst (.pointer (some ⟨b,0,none⟩))) w')
    (ho:o.op= .box t x:=by rfl) (hg:o.guard=none:=by rfl) (hd:dstOK n o.dst=true:=by rfl) (hx:ev ρ x= .agg l.toArray:=by kernel_rfl):OpsE P n ops (o::rest) N ρ w:=sBox hS (.agg l.toArray) l.toArray h ho hg hd hx rfl
theorem sTk (hS:Sat W w cs) (i:Nat) {b:Nat} {c:Array Value} {E:TypeId} (hi:cs[i]?=some [(b, .cells c E (0,0))]) (l:List Value)
    (h:∀w',Sat W w' (cs.set i [(b, .cells l.toArray E (0,0))])->OpsE P n ops rest N ρ w')
    (ho:o.op= .store t x y:=by rfl) (hg:o.guard=none:=by rfl) (hd:o.dst=none:=by rfl) (hsz:pureRun P (sizeOf t)=some l.length:=by kernel_rfl)
    (hx:ev ρ x= .pointer (some ⟨b,0,none⟩):=by kernel_rfl) (hy:ev ρ y= .agg l.toArray:=by kernel_rfl) (hv:(Value.agg l.toArray).cells.toList=l:=by kernel_rfl)
    (h1:l.all (·.oneCell')=true:=by kernel_rfl) (hfit:Nat.ble (0+l.length) c.size=true:=by kernel_rfl) (hc':wr c 0 l=l.toArray:=by kernel_rfl):OpsE P n ops (o::rest) N ρ w:=
  sTl hS i l (pureRun_run P _ _ hsz) h ho hg hd hi hx hy hv rfl h1 hfit hc'
theorem tWk (hS:Sat W w cs) (i:Nat) {b:Nat} {c:Array Value} {E:TypeId} (hi:cs[i]?=some [(b, .cells c E (0,0))]) (off:Nat) (v:Value)
    (h:∀w',Sat W w' (cs.set i [(b, .cells (wr c off v.cells.toList) E (0,0))])->OpsE P n ops rest N ρ w')
    (ho:o.op= .store t x y:=by rfl) (hg:o.guard=none:=by rfl) (hd:o.dst=none:=by rfl) (hsz:pureRun P (sizeOf t)=some v.cells.toList.length:=by kernel_rfl)
    (hx:ev ρ x= .pointer (some ⟨b,off,none⟩):=by kernel_rfl) (hy:ev ρ y=v:=by kernel_rfl)
    (h1:v.cells.toList.all (·.oneCell')=true:=by kernel_rfl) (hfit:Nat.ble (off+v.cells.toList.length) c.size=true:=by kernel_rfl):OpsE P n ops (o::rest) N ρ w:=
  tW hS i off v (pureRun_run P _ _ hsz) h ho hg hd hi hx hy rfl h1 hfit
theorem retD {fn:Func} {R:Ending->World->Prop} (hS:Sat W w cs) (i:Nat) (l:List Value) (v:Value) {b:Nat} {c:Array Value} {E:TypeId} {f:Nat×Nat} {r1 r2:Tmp}
    (h:R (.returned (packed [.agg l.toArray,v])) w) (hr:fn.results=#[.cell r1 t, .tmp r2]:=by rfl) (hag:pureRun P (isAgg t)=some true:=by kernel_rfl) (hsz:pureRun P (sizeOf t)=some l.length:=by kernel_rfl) (h1:ρ r1= .pointer (some ⟨b,0,none⟩):=by kernel_rfl) (hi:cs[i]?=some [(b, .cells c E f)]:=by rfl)
    (hv:(c.toList.drop 0).take l.length=l:=by rfl) (h2:ρ r2=v:=by kernel_rfl):retK P fn R .ret ρ w:=retC hS i l v (pureRun_run P _ _ hag w) (pureRun_run P _ _ hsz w) h hr h1 hi rfl hv h2
theorem lB (hS:Sat W w cs) (i off k:Nat) {b:Nat} {c:Array Value} {E:TypeId} {f:Nat×Nat} (h:OpsE P n ops rest N (put ρ o.dst (.agg ((c.toList.drop off).take k).toArray)) w)
    (ho:o.op= .load t x:=by rfl) (hg:o.guard=none:=by rfl) (hd:dstOK n o.dst=true:=by rfl) (hi:cs[i]?=some [(b, .cells c E f)]:=by rfl) (hag:pureRun P (isAgg t)=some true:=by kernel_rfl) (hsz:pureRun P (sizeOf t)=some k:=by kernel_rfl) (hx:ev ρ x= .pointer (some ⟨b,off,none⟩):=by kernel_rfl)
    (hk:((c.toList.drop off).take k).length=k:=by kernel_rfl):OpsE P n ops (o::rest) N ρ w:=lA hS i off k (pureRun_run P _ _ hag w) (pureRun_run P _ _ hsz w) h ho hg hd hi hx hk
theorem sM (hS:Sat W w cs) (i off:Nat) (v:Value) {b:Nat} {c:Array Value} {E:TypeId} {f:Nat×Nat} (h:OpsE P n ops rest N (put ρ o.dst v) w)
    (ho:o.op= .load t x:=by rfl) (hg:o.guard=none:=by rfl) (hd:dstOK n o.dst=true:=by rfl) (hi:cs[i]?=some [(b, .cells c E f)]:=by rfl) (hag:pureRun P (isAgg t)=some false:=by kernel_rfl) (hx:ev ρ x= .pointer (some ⟨b,off,none⟩):=by kernel_rfl) (hv:c[off]?=some v:=by kernel_rfl):OpsE P n ops (o::rest) N ρ w:=
  stepY v hg hd (Y_load ho (pureRun_run P _ _ hag w) hx (hS.cell i hi hv)) h
theorem sMp (hS:Sat W w cs) {b off:Nat} {l:List Value} (hp:PtR cs b off l) (k:Nat) (v:Value) (h:OpsE P n ops rest N (put ρ o.dst v) w)
    (ho:o.op= .load t x:=by rfl) (hg:o.guard=none:=by rfl) (hd:dstOK n o.dst=true:=by rfl) (hag:pureRun P (isAgg t)=some false:=by kernel_rfl) (hx:ev ρ x= .pointer (some ⟨b,off+k,none⟩):=by kernel_rfl) (hv:l[k]?=some v:=by kernel_rfl):
    OpsE P n ops (o::rest) N ρ w:=sLp hS hp k v (pureRun_run P _ _ hag w) h ho hg hd hx hv
theorem sMA (hS:Sat W w cs) {b off:Nat} {l:List Value} (hp:PtR cs b off l) (i:Nat) (vs:List Value) (h:OpsE P n ops rest N (put ρ o.dst (.agg vs.toArray)) w)
    (ho:o.op= .load t x:=by rfl) (hg:o.guard=none:=by rfl) (hd:dstOK n o.dst=true:=by rfl) (hag:pureRun P (isAgg t)=some true:=by kernel_rfl) (hsz:pureRun P (sizeOf t)=some vs.length:=by kernel_rfl) (hx:ev ρ x= .pointer (some ⟨b,off+i,none⟩):=by kernel_rfl) (hle:Nat.ble (i+vs.length) l.length=true:=by kernel_rfl)
    (hv:(l.drop i).take vs.length=vs:=by kernel_rfl):OpsE P n ops (o::rest) N ρ w:=sLpA hS hp i vs (pureRun_run P _ _ hag w) (pureRun_run P _ _ hsz w) h ho hg hd hx rfl hle hv
def bsOK (P:Program) (t E len:Nat) (ps:List (Nat×Value)):Option Nat×Bool×Option (Array Value):=match pureRun P (underlying t),pureRun P (sizeOf E),pureRun P (zeroValue E) with
  |some (.slice E'),some sz,some z=>(some E',Nat.ble (len*sz) (2^24),Instr.fill (fun i=>some (i*sz,sz)) ((Array.range (len*sz)).map ((if len*sz=0 then #[] else z.cells)[·%(if len*sz=0 then #[] else z.cells).size]!)) ps)
  |_,_,_=>(none,false,none)
theorem sBK (hS:Sat W w cs) (c:Array Value) (E:Nat) {len:Nat} {parts:Array (Nat×Operand)} (h:∀b w',Sat W w' ([(b, .cells c E (0,0))]::cs)->OpsE P n ops rest N (put ρ o.dst (.slice (some ⟨b,0,none⟩) len len)) w')
    (ho:o.op= .buildSlice t len parts:=by rfl) (hg:o.guard=none:=by rfl) (hd:dstOK n o.dst=true:=by rfl) (hb:bsOK P t E len (parts.map fun (i,x)=>(i,ev ρ x)).toList=(some E,true,some c):=by kernel_rfl):OpsE P n ops (o::rest) N ρ w:=by
  unfold bsOK at hb
  split at hb
  · rename_i E' sz z e1 e2 e3
    simp only [Prod.mk.injEq,Option.some.injEq] at hb
    obtain ⟨rfl,hl,hf⟩:=hb
    exact sBS hS c (pureRun_run P _ _ e1) (pureRun_run P _ _ e2) (pureRun_run P _ _ e3) h ho hg hd hl hf
  · cases hb
end
abbrev SO:=Option Addr×Nat×Nat×Chunk
abbrev pS:=Plan.sts
section
variable {α:Type} {enc:α->List Value} {sz:Nat} {a:Option Addr} {len cap:Nat} {xs:List α} {c:Chunk} {E:Nat} {cs:List Chunk}
theorem RdT.ll (h:RdT enc sz cs a len cap xs):(len<=cap/\cap<=9223372036854775807)/\xs.length=len:=⟨h.le,h.len⟩
theorem OwnT.ll (h:OwnT enc E sz a len cap xs c):(len<=cap/\cap<=9223372036854775807)/\xs.length=len:=⟨h.le,h.len⟩
end
theorem qV {P:Program} {n:Nat} {ρ:Env} {w:World} {ops:Array Oper} {E:List Nat} {listed:Array Bool} {N:Env->World->Prop} {L:Facts} {s:Plan} (k:Nat) {l:List Nat} (h:walkP P n ops E L N (Plan.sts (l.drop k) s) (listAll (l.take k) listed) (envP P n ops (sel ops (l.take k)) ρ) w) (hl:((l.take k).all fun i=>Nat.blt i ops.size)=true:=by rfl)
    (hk:pureB P n ops (sel ops (l.take k)) ρ=true:=by kernel_rfl):walkP P n ops E L N (Plan.sts l s) listed ρ w:=by
  have he:∀(a b:List Nat),Plan.sts (a++b) s=Plan.sts a (Plan.sts b s):=fun a b=>by induction a with|nil=>rfl|cons x a ih=>simp only [List.cons_append,Plan.sts,ih]
  have:=qU (l.take k) h hl hk
  rwa [<-he,List.take_append_drop] at this
end Go.E

namespace Go.E
set_option linter.unusedVariables false
inductive Fr where
  |seq (c:Code)
  |blk (id:Nat)
  |inv (N:Env->World->Prop)
def KS (P:Program) (n:Nat) (R:Exit->Env->World->Prop):List Fr->Exit->Env->World->Prop
  |[]=>R
  | .seq c::fs=>thenK (CodeE P n c (KS P n R fs)) (KS P n R fs)
  | .blk id::fs=>blockK id (KS P n R fs)
  | .inv N::fs=>thenK N (KS P n R fs)
inductive MS where
  |code (c:Code) (fs:List Fr) (ρ:Env)
  |ops (os:Array Oper) (l:List Oper) (fs:List Fr) (ρ:Env)
  |ex (e:Exit) (fs:List Fr) (ρ:Env)
def MS.G (P:Program) (n:Nat) (R:Exit->Env->World->Prop) (w:World):MS->Prop
  | .code c fs ρ=>CodeE P n c (KS P n R fs) ρ w
  | .ops os l fs ρ=>OpsE P n os l (KS P n R fs .normal) ρ w
  | .ex e fs ρ=>KS P n R fs e ρ w
def ptrB:Value->Nat
  | .pointer (some ⟨b,_,none⟩)=>b
  |_=>0
def ptrO:Value->Nat
  | .pointer (some ⟨_,o,none⟩)=>o
  |_=>0
def isP:Value->Bool
  | .pointer (some ⟨_,_,none⟩)=>true
  |_=>false
def chX (cs:List Chunk) (i:Nat):Option (Array Value):=match cs[i]? with
  |some [(_, .cells c _ _)]=>some c
  |_=>none
def ldC (c:Array Value) (h off:Nat):Value:=bif Nat.blt h 100 then c.getD off undef else .agg ((c.toList.drop off).take (h/100)).toArray
def hix (h:Nat):Nat:=bif Nat.blt h 100 then h else h%100
def ldV (cs:List Chunk) (h off:Nat):Value:=ldC (chC cs (hix h)) h off
def stO (P:Program) (n:Nat) (cs:List Chunk) (os:Array Oper) (ρ:Env) (o:Oper) (hs:List Nat):Value×List Nat:=match guardP os n ρ o.guard with
  |some true=>match o.op with
    | .load _ x=>match hs with
      |h::hs=>match chX cs (hix h) with
        |some c=>(ldC c h (ptrO (ev ρ x)),hs)
        |none=>(undef,hs)
      |[]=>(undef,[])
    |_=>(valP (pureRun P (execOp (ev ρ) o)),hs)
  |_=>(undef,hs)
def okL (P:Program) (cs:List Chunk) (ρ:Env) (t:TypeId) (x:Operand) (h:Nat):Bool:=isP (ev ρ x)&&
  (bif Nat.blt h 100 then isC cs h&&Nat.blt (ptrO (ev ρ x)) (chC cs h).size&&(match pureRun P (isAgg t) with|some b=>!b|none=>false)
    else isC cs (h%100)&&Nat.ble (ptrO (ev ρ x)+h/100) (chC cs (h%100)).size&&(match pureRun P (isAgg t) with|some b=>b|none=>false)&&(match pureRun P (sizeOf t) with|some k=>Nat.beq k (h/100)|none=>false))
def okO (P:Program) (n:Nat) (cs:List Chunk) (os:Array Oper) (ρ:Env) (o:Oper) (hs:List Nat):Bool:=dstOK n o.dst&&match guardP os n ρ o.guard with
  |some true=>match o.op with
    | .load t x=>match hs with
      |h::_=>okL P cs ρ t x h
      |[]=>false
    |_=>isV (pureRun P (execOp (ev ρ) o))
  |some false=>true
  |none=>false
def obO (n:Nat) (cs:List Chunk) (os:Array Oper) (ρ:Env) (o:Oper) (hs:List Nat):List Nat×List Nat:=match guardP os n ρ o.guard with
  |some true=>match o.op with
    | .load _ x=>match hs with
      |h::_=>([ptrB (ev ρ x)],[chB cs (hix h)])
      |[]=>([],[])
    |_=>([],[])
  |_=>([],[])
def st1 (P:Program) (n:Nat) (cs:List Chunk) (hs:List Nat):MS->MS×List Nat
  | .code c fs ρ=>match c with
    | .seq x y=>(.code x (.seq y::fs) ρ,hs)
    | .region _ os _=>(.ops os os.toList fs ρ,hs)
    | .block id c=>(.code c (.blk id::fs) ρ,hs)
    | .ret=>(.ex .ret fs ρ,hs)
    | .exit id=>(.ex (.exit id) fs ρ,hs)
    | .cond c x y=>match ev ρ c with
      | .bool true=>(.code x fs ρ,hs)
      |_=>(.code y fs ρ,hs)
    |_=>(.ex .normal fs ρ,hs)
  | .ops os l fs ρ=>match l with
    |[]=>(.ex .normal fs ρ,hs)
    |o::l=>match stO P n cs os ρ o hs with
      |(v,hs)=>(.ops os l fs (put ρ o.dst v),hs)
  | .ex e fs ρ=>match fs with
    | .seq c::fs=>match e with
      | .normal=>(.code c fs ρ,hs)
      |_=>(.ex e fs ρ,hs)
    | .blk id::fs=>match e with
      | .exit id'=>(.ex (bif Nat.beq id' id then .normal else .exit id') fs ρ,hs)
      |_=>(.ex e fs ρ,hs)
    | .inv _::fs=>(.ex e fs ρ,hs)
    |[]=>(.ex e [] ρ,hs)
def isN:Exit->Bool
  | .normal=>true
  |_=>false
def ok1 (P:Program) (n:Nat) (cs:List Chunk) (hs:List Nat):MS->Bool
  | .code c fs ρ=>match c with
    | .seq _ _=>true
    | .region _ _ d=>!d
    | .block _ _=>true
    | .ret=>true
    | .exit _=>true
    | .skip=>true
    | .cond c _ _=>match ev ρ c with
      | .bool true=>true
      | .bool false=>true
      |_=>false
    |_=>false
  | .ops os l fs ρ=>match l with
    |[]=>true
    |o::_=>okO P n cs os ρ o hs
  | .ex e fs ρ=>match fs with
    | .inv _::_=>!isN e
    |_=>true
def ob1 (n:Nat) (cs:List Chunk) (hs:List Nat):MS->List Nat×List Nat
  | .ops os (o::_) _ ρ=>obO n cs os ρ o hs
  |_=>([],[])
def run (P:Program) (n:Nat) (cs:List Chunk):Nat->List Nat->MS->MS
  |0,_,s=>s
  |k+1,hs,s=>match st1 P n cs hs s with
    |(s',hs')=>run P n cs k hs' s'
def okR (P:Program) (n:Nat) (cs:List Chunk):Nat->List Nat->MS->Bool
  |0,_,_=>true
  |k+1,hs,s=>ok1 P n cs hs s&&match st1 P n cs hs s with
    |(s',hs')=>okR P n cs k hs' s'
def obA (P:Program) (n:Nat) (cs:List Chunk):Nat->List Nat->MS->List Nat
  |0,_,_=>[]
  |k+1,hs,s=>(ob1 n cs hs s).1++match st1 P n cs hs s with
    |(s',hs')=>obA P n cs k hs' s'
def obB (P:Program) (n:Nat) (cs:List Chunk):Nat->List Nat->MS->List Nat
  |0,_,_=>[]
  |k+1,hs,s=>(ob1 n cs hs s).2++match st1 P n cs hs s with
    |(s',hs')=>obB P n cs k hs' s'
section
variable {P:Program} {n:Nat} {R:Exit->Env->World->Prop} {W w:World} {cs:List Chunk}
theorem isP_eq {v:Value} (h:isP v=true):v= .pointer (some ⟨ptrB v,ptrO v,none⟩):=by
  unfold isP at h
  split at h
  · rfl
  · cases h
theorem chX_eq {i:Nat} (h:isC cs i=true):chX cs i=some (chC cs i):=by
  obtain ⟨E,f,hi⟩:=isC_eq h
  unfold chX;rw [hi]
theorem okL_C {ρ:Env} {t:TypeId} {x:Operand} {h:Nat} (hk:okL P cs ρ t x h=true):isC cs (hix h)=true:=by
  unfold okL at hk
  rw [Bool.and_eq_true] at hk
  have h2:=hk.2
  unfold hix
  cases hh:Nat.blt h 100 with
  |true=>rw [hh] at h2;simp only [cond_true,Bool.and_eq_true] at h2⊢;exact h2.1.1
  |false=>rw [hh] at h2;simp only [cond_false,Bool.and_eq_true] at h2⊢;exact h2.1.1.1
theorem run_pure {α:Type} {s:Sem α} {a:α} (h:pureRun P s=some a):s.run P w= .ok a w:=pureRun_run P s a h w
theorem load_ok (hS:Sat W w cs) {ρ:Env} {o:Oper} {t:TypeId} {x:Operand} {h:Nat} (ho:o.op= .load t x) (hk:okL P cs ρ t x h=true) (hb:ptrB (ev ρ x)=chB cs (hix h)):Yields P ρ o (ldV cs h (ptrO (ev ρ x))) w:=by
  unfold okL at hk
  rw [Bool.and_eq_true] at hk
  have hx:=isP_eq hk.1
  have hk2:=hk.2
  unfold hix at hb
  cases hh:Nat.blt h 100 with
  |true=>
    rw [hh] at hk2 hb
    simp only [cond_true,Bool.and_eq_true] at hk2 hb
    obtain ⟨E,f,hi⟩:=isC_eq hk2.1.1
    have hlt:ptrO (ev ρ x)<(chC cs h).size:=by simpa using hk2.1.2
    have hag:(isAgg t).run P w= .ok false w:=by
      have h3:=hk2.2
      split at h3
      · rename_i b e;simp only [Bool.not_eq_true'] at h3;subst h3;exact run_pure e
      · cases h3
    have hv:(chC cs h)[ptrO (ev ρ x)]?=some ((chC cs h).getD (ptrO (ev ρ x)) undef):=by simp [Array.getD,hlt]
    unfold ldV ldC hix
    rw [hh]
    simp only [cond_true]
    exact Y_load ho hag (hx.trans (by rw [hb])) (hS.cell h hi hv)
  |false=>
    rw [hh] at hk2 hb
    simp only [cond_false,Bool.and_eq_true] at hk2 hb
    obtain ⟨E,f,hi⟩:=isC_eq hk2.1.1.1
    have hle:ptrO (ev ρ x)+h/100<=(chC cs (h%100)).size:=Nat.le_of_ble_eq_true hk2.1.1.2
    have hag:(isAgg t).run P w= .ok true w:=by
      have h3:=hk2.1.2
      split at h3
      · rename_i b e;subst h3;exact run_pure e
      · cases h3
    have hsz:(sizeOf t).run P w= .ok (h/100) w:=by
      have h3:=hk2.2
      split at h3
      · rename_i k e;have:=Nat.eq_of_beq_eq_true h3;subst this;exact run_pure e
      · cases h3
    have hlen:(((chC cs (h%100)).toList.drop (ptrO (ev ρ x))).take (h/100)).length=h/100:=by
      rw [List.length_take,List.length_drop,Array.length_toList];omega
    unfold ldV ldC hix
    rw [hh]
    simp only [cond_false]
    exact Y_loadA ho hag hsz (hx.trans (by rw [hb])) hlen hS (PtR.blk (h%100) hi (by rw [hlen]))
theorem st1_sound (hS:Sat W w cs) (hs:List Nat) (s:MS) (hk:ok1 P n cs hs s=true) (hb:(ob1 n cs hs s).1=(ob1 n cs hs s).2) (h:(st1 P n cs hs s).1.G P n R w):s.G P n R w:=by
  cases s with
  |code c fs ρ=>
    cases c with
    |seq x y=>exact seqE h
    |region id os d=>
      simp only [ok1,Bool.not_eq_true'] at hk
      subst hk
      have h0:OpsE P n os os.toList (KS P n R fs .normal) ρ w:=h
      have e:os.toList.toArray=os:=Array.toArray_toList
      show CodeE P n (.region id os false) (KS P n R fs) ρ w
      rw [<-e]
      exact regionE (by rw [e];exact h0)
    |block id c=>exact blockE h
    |ret=>exact retE h
    |exit id=>exact exitE h
    |skip=>exact skipE h
    |cond c x y=>
      simp only [ok1] at hk
      simp only [st1] at h
      split at h
      · rename_i e;exact condE_true e h
      · rename_i e
        split at hk
        · rename_i e2;exact absurd e2 e
        · rename_i e2;exact condE_false e2 h
        · cases hk
    |_=>cases hk
  |ops os l fs ρ=>
    cases l with
    |nil=>exact nilO h
    |cons o l=>
      simp only [ok1,okO,Bool.and_eq_true] at hk
      simp only [ob1,obO] at hb
      simp only [st1,stO] at h
      obtain ⟨hd,hk⟩:=hk
      cases hg:guardP os n ρ o.guard with
      |none=>rw [hg] at hk;cases hk
      |some b=>
        rw [hg] at hk h hb
        have key:∀v,(b=true->Yields P ρ o v w)->(b=false->v=undef)->OpsE P n os l (KS P n R fs .normal) (put ρ o.dst v) w->OpsE P n os (o::l) (KS P n R fs .normal) ρ w:=by
          intro v hy hu hr
          cases hgo:o.guard with
          |none=>rw [hgo] at hg;simp only [guardP,Option.some.injEq] at hg;exact stepY v hgo hd (hy hg.symm) hr
          |some g=>
            obtain ⟨j,q⟩:=g
            rw [hgo] at hg
            cases b with
            |true=>
              refine guardYes hgo (guardP_yes hg) (stepY v rfl hd ?_ hr)
              have:=hy rfl
              unfold Yields execOp at this⊢
              exact this
            |false=>rw [hu rfl] at hr;exact guardNo hgo hd (guardP_no hg) hr
        cases b with
        |false=>exact key undef (fun e=>by cases e) (fun _=>rfl) h
        |true=>
          dsimp only at hk h hb
          split at hk
          · rename_i t x ho
            rw [ho] at h hb
            cases hs with
            |nil=>cases hk
            |cons q hs=>
              dsimp only at h hb hk
              rw [chX_eq (okL_C hk)] at h
              exact key _ (fun _=>load_ok hS ho hk (List.cons.inj hb).1) (fun e=>by cases e) h
          · rename_i hno
            have h':OpsE P n os l (KS P n R fs .normal) (put ρ o.dst (valP (pureRun P (execOp (ev ρ) o)))) w:=by
              split at h
              · rename_i t x ho;exact absurd ho (hno t x)
              · exact h
            refine key _ (fun _=>?_) (fun e=>by cases e) h'
            cases hr:pureRun P (execOp (ev ρ) o) with
            |none=>rw [hr] at hk;cases hk
            |some z=>
              rw [hr] at hk
              cases z<;>simp only [isV] at hk<;>first|contradiction|exact pureRun_run P _ _ hr w
  |ex e fs ρ=>
    cases fs with
    |nil=>exact h
    |cons f fs=>
      cases f with
      |seq c=>cases e<;>exact h
      |blk id=>
        cases e with
        |exit id'=>
          show blockK id _ (.exit id') ρ w
          simp only [st1] at h
          cases hi:Nat.beq id' id with
          |true=>rw [hi] at h;have:=Nat.eq_of_beq_eq_true hi;subst this;exact blockK_x h
          |false=>rw [hi] at h;exact blockK_y hi h
        |_=>exact h
      |inv N=>
        cases e with
        |normal=>cases hk
        |_=>exact h
theorem run_sound (hS:Sat W w cs):∀(k:Nat) (hs:List Nat) (s:MS),okR P n cs k hs s=true->obA P n cs k hs s=obB P n cs k hs s->(run P n cs k hs s).G P n R w->s.G P n R w
  |0,_,_,_,_,h=>h
  |k+1,hs,s,hk,hb,h=>by
    simp only [okR,Bool.and_eq_true] at hk
    simp only [obA,obB] at hb
    simp only [run] at h
    have hl:(ob1 n cs hs s).1.length=(ob1 n cs hs s).2.length:=by
      unfold ob1
      split
      · unfold obO;split
        · split
          · split<;>rfl
          · rfl
        · rfl
      · rfl
    obtain ⟨h1,h2⟩:=List.append_inj hb hl
    exact st1_sound hS hs s hk.1 h1 (run_sound hS k _ _ hk.2 h2 h)
variable {fs:List Fr} {ρ:Env}
theorem sat0 (w:World):Sat w w []:=⟨rfl,rfl,rfl,List.nodup_nil,fun p hp=>by cases hp⟩
def env0:Env:=fun _=>undef
def MS.env:MS->Env
  | .code _ _ ρ=>ρ
  | .ops _ _ _ ρ=>ρ
  | .ex _ _ ρ=>ρ
def MS.ctl:MS->MS
  | .code c fs _=> .code c fs env0
  | .ops os l fs _=> .ops os l fs env0
  | .ex e fs _=> .ex e fs env0
def MS.set:MS->Env->MS
  | .code c fs _,ρ=> .code c fs ρ
  | .ops os l fs _,ρ=> .ops os l fs ρ
  | .ex e fs _,ρ=> .ex e fs ρ
theorem MS.ctl_set (s:MS):s.ctl.set s.env=s:=by cases s<;>rfl
theorem run_to (hS:Sat W w cs) {k:Nat} {hs:List Nat} {s t:MS} (hk:okR P n cs k hs s=true) (hb:obA P n cs k hs s=obB P n cs k hs s) (e0:(run P n cs k hs s).ctl=t) (h:(t.set (run P n cs k hs s).env).G P n R w):s.G P n R w:=
  run_sound hS k hs s hk hb (by rw [<-e0,MS.ctl_set] at h;exact h)
variable {fs':List Fr}
theorem gCC {c:Code} {c':Code} (hS:Sat W w cs) (k:Nat) (hs:List Nat) (e0:(run P n cs k hs (.code c fs ρ)).ctl=(.code c' fs' env0)) (h:CodeE P n c' (KS P n R fs') (run P n cs k hs (.code c fs ρ)).env w) (hk:okR P n cs k hs (.code c fs ρ)=true:=by kernel_rfl) (hb:obA P n cs k hs (.code c fs ρ)=obB P n cs k hs (.code c fs ρ):=by kernel_rfl):CodeE P n c (KS P n R fs) ρ w:=run_to hS hk hb e0 h
theorem jCC {c:Code} {c':Code} (k:Nat) (e0:(run P n [] k [] (.code c fs ρ)).ctl=(.code c' fs' env0)) (h:CodeE P n c' (KS P n R fs') (run P n [] k [] (.code c fs ρ)).env w) (hk:okR P n [] k [] (.code c fs ρ)=true:=by kernel_rfl) (hb:obA P n [] k [] (.code c fs ρ)=obB P n [] k [] (.code c fs ρ):=by kernel_rfl):CodeE P n c (KS P n R fs) ρ w:=run_to (sat0 w) hk hb e0 h
theorem gCO {c:Code} {os':Array Oper} {l':List Oper} (hS:Sat W w cs) (k:Nat) (hs:List Nat) (e0:(run P n cs k hs (.code c fs ρ)).ctl=(.ops os' l' fs' env0)) (h:OpsE P n os' l' (KS P n R fs' .normal) (run P n cs k hs (.code c fs ρ)).env w) (hk:okR P n cs k hs (.code c fs ρ)=true:=by kernel_rfl) (hb:obA P n cs k hs (.code c fs ρ)=obB P n cs k hs (.code c fs ρ):=by kernel_rfl):CodeE P n c (KS P n R fs) ρ w:=run_to hS hk hb e0 h
theorem jCO {c:Code} {os':Array Oper} {l':List Oper} (k:Nat) (e0:(run P n [] k [] (.code c fs ρ)).ctl=(.ops os' l' fs' env0)) (h:OpsE P n os' l' (KS P n R fs' .normal) (run P n [] k [] (.code c fs ρ)).env w) (hk:okR P n [] k [] (.code c fs ρ)=true:=by kernel_rfl) (hb:obA P n [] k [] (.code c fs ρ)=obB P n [] k [] (.code c fs ρ):=by kernel_rfl):CodeE P n c (KS P n R fs) ρ w:=run_to (sat0 w) hk hb e0 h
theorem gCR {c:Code} {e':Exit} (hS:Sat W w cs) (k:Nat) (hs:List Nat) (e0:(run P n cs k hs (.code c fs ρ)).ctl=(.ex e' [] env0)) (h:R e' (run P n cs k hs (.code c fs ρ)).env w) (hk:okR P n cs k hs (.code c fs ρ)=true:=by kernel_rfl) (hb:obA P n cs k hs (.code c fs ρ)=obB P n cs k hs (.code c fs ρ):=by kernel_rfl):CodeE P n c (KS P n R fs) ρ w:=run_to hS hk hb e0 h
theorem jCR {c:Code} {e':Exit} (k:Nat) (e0:(run P n [] k [] (.code c fs ρ)).ctl=(.ex e' [] env0)) (h:R e' (run P n [] k [] (.code c fs ρ)).env w) (hk:okR P n [] k [] (.code c fs ρ)=true:=by kernel_rfl) (hb:obA P n [] k [] (.code c fs ρ)=obB P n [] k [] (.code c fs ρ):=by kernel_rfl):CodeE P n c (KS P n R fs) ρ w:=run_to (sat0 w) hk hb e0 h
theorem jCI {c:Code} {N':Env->World->Prop} (k:Nat) (e0:(run P n [] k [] (.code c fs ρ)).ctl=(.ex .normal (.inv N'::fs') env0)) (h:N' (run P n [] k [] (.code c fs ρ)).env w) (hk:okR P n [] k [] (.code c fs ρ)=true:=by kernel_rfl) (hb:obA P n [] k [] (.code c fs ρ)=obB P n [] k [] (.code c fs ρ):=by kernel_rfl):CodeE P n c (KS P n R fs) ρ w:=run_to (sat0 w) hk hb e0 h
theorem gOC {os:Array Oper} {l:List Oper} {c':Code} (hS:Sat W w cs) (k:Nat) (hs:List Nat) (e0:(run P n cs k hs (.ops os l fs ρ)).ctl=(.code c' fs' env0)) (h:CodeE P n c' (KS P n R fs') (run P n cs k hs (.ops os l fs ρ)).env w) (hk:okR P n cs k hs (.ops os l fs ρ)=true:=by kernel_rfl) (hb:obA P n cs k hs (.ops os l fs ρ)=obB P n cs k hs (.ops os l fs ρ):=by kernel_rfl):OpsE P n os l (KS P n R fs .normal) ρ w:=run_to hS hk hb e0 h
theorem jOC {os:Array Oper} {l:List Oper} {c':Code} (k:Nat) (e0:(run P n [] k [] (.ops os l fs ρ)).ctl=(.code c' fs' env0)) (h:CodeE P n c' (KS P n R fs') (run P n [] k [] (.ops os l fs ρ)).env w) (hk:okR P n [] k [] (.ops os l fs ρ)=true:=by kernel_rfl) (hb:obA P n [] k [] (.ops os l fs ρ)=obB P n [] k [] (.ops os l fs ρ):=by kernel_rfl):OpsE P n os l (KS P n R fs .normal) ρ w:=run_to (sat0 w) hk hb e0 h
theorem gOO {os:Array Oper} {l:List Oper} {os':Array Oper} {l':List Oper} (hS:Sat W w cs) (k:Nat) (hs:List Nat) (e0:(run P n cs k hs (.ops os l fs ρ)).ctl=(.ops os' l' fs' env0)) (h:OpsE P n os' l' (KS P n R fs' .normal) (run P n cs k hs (.ops os l fs ρ)).env w) (hk:okR P n cs k hs (.ops os l fs ρ)=true:=by kernel_rfl) (hb:obA P n cs k hs (.ops os l fs ρ)=obB P n cs k hs (.ops os l fs ρ):=by kernel_rfl):OpsE P n os l (KS P n R fs .normal) ρ w:=run_to hS hk hb e0 h
theorem jOO {os:Array Oper} {l:List Oper} {os':Array Oper} {l':List Oper} (k:Nat) (e0:(run P n [] k [] (.ops os l fs ρ)).ctl=(.ops os' l' fs' env0)) (h:OpsE P n os' l' (KS P n R fs' .normal) (run P n [] k [] (.ops os l fs ρ)).env w) (hk:okR P n [] k [] (.ops os l fs ρ)=true:=by kernel_rfl) (hb:obA P n [] k [] (.ops os l fs ρ)=obB P n [] k [] (.ops os l fs ρ):=by kernel_rfl):OpsE P n os l (KS P n R fs .normal) ρ w:=run_to (sat0 w) hk hb e0 h
theorem jOX {os:Array Oper} {l:List Oper} {e':Exit} (k:Nat) (e0:(run P n [] k [] (.ops os l fs ρ)).ctl=(.ex e' fs' env0)) (h:KS P n R fs' e' (run P n [] k [] (.ops os l fs ρ)).env w) (hk:okR P n [] k [] (.ops os l fs ρ)=true:=by kernel_rfl) (hb:obA P n [] k [] (.ops os l fs ρ)=obB P n [] k [] (.ops os l fs ρ):=by kernel_rfl):OpsE P n os l (KS P n R fs .normal) ρ w:=run_to (sat0 w) hk hb e0 h
theorem gOR {os:Array Oper} {l:List Oper} {e':Exit} (hS:Sat W w cs) (k:Nat) (hs:List Nat) (e0:(run P n cs k hs (.ops os l fs ρ)).ctl=(.ex e' [] env0)) (h:R e' (run P n cs k hs (.ops os l fs ρ)).env w) (hk:okR P n cs k hs (.ops os l fs ρ)=true:=by kernel_rfl) (hb:obA P n cs k hs (.ops os l fs ρ)=obB P n cs k hs (.ops os l fs ρ):=by kernel_rfl):OpsE P n os l (KS P n R fs .normal) ρ w:=run_to hS hk hb e0 h
theorem jOR {os:Array Oper} {l:List Oper} {e':Exit} (k:Nat) (e0:(run P n [] k [] (.ops os l fs ρ)).ctl=(.ex e' [] env0)) (h:R e' (run P n [] k [] (.ops os l fs ρ)).env w) (hk:okR P n [] k [] (.ops os l fs ρ)=true:=by kernel_rfl) (hb:obA P n [] k [] (.ops os l fs ρ)=obB P n [] k [] (.ops os l fs ρ):=by kernel_rfl):OpsE P n os l (KS P n R fs .normal) ρ w:=run_to (sat0 w) hk hb e0 h
theorem jOI {os:Array Oper} {l:List Oper} {N':Env->World->Prop} (k:Nat) (e0:(run P n [] k [] (.ops os l fs ρ)).ctl=(.ex .normal (.inv N'::fs') env0)) (h:N' (run P n [] k [] (.ops os l fs ρ)).env w) (hk:okR P n [] k [] (.ops os l fs ρ)=true:=by kernel_rfl) (hb:obA P n [] k [] (.ops os l fs ρ)=obB P n [] k [] (.ops os l fs ρ):=by kernel_rfl):OpsE P n os l (KS P n R fs .normal) ρ w:=run_to (sat0 w) hk hb e0 h
theorem gXC {e:Exit} {c':Code} (hS:Sat W w cs) (k:Nat) (hs:List Nat) (e0:(run P n cs k hs (.ex e fs ρ)).ctl=(.code c' fs' env0)) (h:CodeE P n c' (KS P n R fs') (run P n cs k hs (.ex e fs ρ)).env w) (hk:okR P n cs k hs (.ex e fs ρ)=true:=by kernel_rfl) (hb:obA P n cs k hs (.ex e fs ρ)=obB P n cs k hs (.ex e fs ρ):=by kernel_rfl):KS P n R fs e ρ w:=run_to hS hk hb e0 h
theorem jXC {e:Exit} {c':Code} (k:Nat) (e0:(run P n [] k [] (.ex e fs ρ)).ctl=(.code c' fs' env0)) (h:CodeE P n c' (KS P n R fs') (run P n [] k [] (.ex e fs ρ)).env w) (hk:okR P n [] k [] (.ex e fs ρ)=true:=by kernel_rfl) (hb:obA P n [] k [] (.ex e fs ρ)=obB P n [] k [] (.ex e fs ρ):=by kernel_rfl):KS P n R fs e ρ w:=run_to (sat0 w) hk hb e0 h
theorem gXO {e:Exit} {os':Array Oper} {l':List Oper} (hS:Sat W w cs) (k:Nat) (hs:List Nat) (e0:(run P n cs k hs (.ex e fs ρ)).ctl=(.ops os' l' fs' env0)) (h:OpsE P n os' l' (KS P n R fs' .normal) (run P n cs k hs (.ex e fs ρ)).env w) (hk:okR P n cs k hs (.ex e fs ρ)=true:=by kernel_rfl) (hb:obA P n cs k hs (.ex e fs ρ)=obB P n cs k hs (.ex e fs ρ):=by kernel_rfl):KS P n R fs e ρ w:=run_to hS hk hb e0 h
theorem jXO {e:Exit} {os':Array Oper} {l':List Oper} (k:Nat) (e0:(run P n [] k [] (.ex e fs ρ)).ctl=(.ops os' l' fs' env0)) (h:OpsE P n os' l' (KS P n R fs' .normal) (run P n [] k [] (.ex e fs ρ)).env w) (hk:okR P n [] k [] (.ex e fs ρ)=true:=by kernel_rfl) (hb:obA P n [] k [] (.ex e fs ρ)=obB P n [] k [] (.ex e fs ρ):=by kernel_rfl):KS P n R fs e ρ w:=run_to (sat0 w) hk hb e0 h
theorem jXR {e:Exit} {e':Exit} (k:Nat) (e0:(run P n [] k [] (.ex e fs ρ)).ctl=(.ex e' [] env0)) (h:R e' (run P n [] k [] (.ex e fs ρ)).env w) (hk:okR P n [] k [] (.ex e fs ρ)=true:=by kernel_rfl) (hb:obA P n [] k [] (.ex e fs ρ)=obB P n [] k [] (.ex e fs ρ):=by kernel_rfl):KS P n R fs e ρ w:=run_to (sat0 w) hk hb e0 h
theorem jXI {e:Exit} {N':Env->World->Prop} (k:Nat) (e0:(run P n [] k [] (.ex e fs ρ)).ctl=(.ex .normal (.inv N'::fs') env0)) (h:N' (run P n [] k [] (.ex e fs ρ)).env w) (hk:okR P n [] k [] (.ex e fs ρ)=true:=by kernel_rfl) (hb:obA P n [] k [] (.ex e fs ρ)=obB P n [] k [] (.ex e fs ρ):=by kernel_rfl):KS P n R fs e ρ w:=run_to (sat0 w) hk hb e0 h
section
variable {R0 cs0:List Chunk} {w0:World} {γ:Type}
theorem loopF {b:Code} (fr:List Nat) (inv:γ->List Chunk->LI) (g0:γ) (h0:(inv g0 R0).P W w)
    (h:∀g ρ' w,(inv g R0).P W w->CodeE P n b (KS P n R (.inv (fun ρ'' w'=>∃g',(inv g' R0).m<(inv g R0).m/\KeepAt ρ'' (inv g' R0).sl ρ fr/\(inv g' R0).P W w')::fs)) (upds ρ' ((inv g R0).sl++keep ρ fr)) w) (ha:AllAt ρ (inv g0 R0).sl:=by exact alA):CodeE P n (.loop b) (KS P n R fs) ρ w:=loopB fr inv g0 h0 h ha
theorem cutF {x y:Code} (hS:Sat W w0 cs0) (k:Nat) (fr:List Nat) (inv:γ->List Chunk->LI) (h:CodeE P n x (KS P n R (.inv (fun ρ' w=>∃g,KeepAt ρ' (inv g R0).sl ρ fr/\(inv g R0).P W w)::fs)) ρ w)
    (h2:∀g ρ' w,(inv g R0).P W w->CodeE P n y (KS P n R fs) (upds ρ' ((inv g R0).sl++keep ρ fr)) w) (hR:Tl k cs0 R0:=by repeat constructor):CodeE P n (.seq x y) (KS P n R fs) ρ w:=cutB hS k fr inv h h2 hR
end
theorem callsK (n:Nat) {f:FuncId} {fn:Func} {b:Code} {args:Array Value} {R:Ending->World->Prop} (hf:P.funcs[f]?=some fn) (hb:fn.body=some b) (h:CodeE P n b (KS P n (retK P fn R) []) (rho0 args) w) (hn:fn.ntmps=n:=by rfl) (hs:Nat.ble args.size n=true:=by rfl):Calls P f args w R:=callsA n hf hb h hn hs
end
end Go.E

namespace Go.Proofs.YtkadmghedmodbaaGreat
open Go Go.E Go.Proofs.Tryz
set_option linter.all false
set_option maxRecDepth 100000
set_option maxHeartbeats 2000000
variable {W w:World} {H:Chunk} {F:List Chunk}
structure Sl (α:Type) where
  a:Option Addr
  n:Nat
  k:Nat
  l:List α
structure Ref where
  job:Int
  task:Int
  deriving DecidableEq
def encRef (x:Ref):List Value:=[.int .i64 x.job, .int .i64 x.task]
structure Task where
  stage:Int
  part:Int
  rectX0:Int
  rectY0:Int
  rectX1:Int
  rectY1:Int
  deps:Sl Int
  rows:Int
  scratch:Int
def encTask (x:Task):List Value:=[.int .i64 x.stage, .int .i64 x.part, .int .i64 x.rectX0, .int .i64 x.rectY0, .int .i64 x.rectX1, .int .i64 x.rectY1, .slice x.deps.a x.deps.n x.deps.k, .int .i64 x.rows, .int .i64 x.scratch]
structure TaskV where
  stage:Int
  part:Int
  rectX0:Int
  rectY0:Int
  rectX1:Int
  rectY1:Int
  deps:List Int
  rows:Int
  scratch:Int
  deriving DecidableEq
def Task.v (x:Task):TaskV:=⟨x.stage,x.part,x.rectX0,x.rectY0,x.rectX1,x.rectY1,x.deps.l,x.rows,x.scratch⟩
structure Task.Ok (cs:List Chunk) (q:Task):Prop where
  deps:RdT Go.E.encI 1 cs q.deps.a q.deps.n q.deps.k q.deps.l
theorem Task.Ok.of_mem {cs cs':List Chunk} {x:Task} (h:Task.Ok cs x) (hm:∀p∈cs.flatten,p∈cs'.flatten):Task.Ok cs' x:=⟨h.deps.of_mem hm⟩
abbrev zTask:Task:=⟨0,0,0,0,0,0,⟨none,0,0,[]⟩,0,0⟩
theorem tape_new {cs:List Chunk} (a:Option Addr) (n k:Nat) (hS:Sat W w cs):
    Calls prog 6 #[.slice a n k] w fun e w'=>∃p:Nat,e= .returned (.pointer (some ⟨p,0,none⟩))/\Sat W w' ([(p, .cells #[.slice a n k, .int .i64 0] 72 (0,0))]::cs):=by
  exact callsK 6 func6 rfl<|jCO 9 rfl<|sBx hS [.slice a n k, .int .i64 0] fun b0 c0 a0=>jOR 4 rfl<|retT [.pointer (some ⟨b0,0,none⟩)]<|⟨_,rfl,a0⟩
theorem tmod_bd (v n:Int) (h:0<n):-n<v.tmod n/\v.tmod n<n:=by
  have h1:=Int.tmod_lt_of_pos v h
  have h2:=Int.lt_tmod_of_pos v h
  omega
theorem mod_ok {cs:List Chunk} (v n:Int) (hn:0<n) (hn2:n<=4611686018427387904) (hS:Sat W w cs):
    Calls prog 41 #[.int .i64 v, .int .i64 n] w fun e w'=>∃r:Int,e= .returned (.int .i64 r)/\(0<=r/\r<n)/\Sat W w' cs:=by
  have hm:=tmod_bd v n hn
  exact callsK 15 func41 rfl<|jCO 9 rfl<|sRem v n<|jOC 10 rfl<|CD ((v.tmod n)<0) (fun a0=>jCR 9 rfl<|retT [.int .i64 (v.tmod n)]<|⟨_,rfl,by omega,hS⟩) fun a0=>jCO 3 rfl<|sAdd (v.tmod n) n<|jOR 10 rfl<|retT [.int .i64 ((v.tmod n)+n)]<|⟨_,rfl,by omega,hS⟩
theorem tape_next {p:Nat} {a:Option Addr} {n k:Nat} {i:Int} {xs:List Int} (hR:RdT Go.E.encI 1 [H] a n k xs) (hi:0<=i/\i<=n) (hS:Sat W w ([(p, .cells #[.slice a n k,I i] 72 (0,0))]::H::F)) (m:Int) (hm:m<=4611686018427387904):
  Calls prog 13 #[Pt p 0,I m] w fun e w'=>∃r:Int,e= .returned (I r)/\(0<=r/\(r<m\/r=0))/\∃i':Int,(0<=i'/\i'<=n)/\Sat W w' ([(p, .cells #[.slice a n k,I i'] 72 (0,0))]::H::F):=by
 have l0:=hR.le
 refine callsK 39 func13 rfl<|jCC 7 rfl<|bD ((m:Int)<1) (fun b0=>drawF hS [] (fn) [0,1,2,3,4,5,7,8,9,6,10,11,12,13] fun _ d0=>wV 3<|wFix 7 _ true (decide_eq_true b0)<|wV 11<|wN<|jXR 9 rfl<|retT [I 0]<|⟨_,rfl,om,_,om,d0⟩) fun b0=>drawF hS [] (fb 6 0 1 1<|fb 10 0 0 1<|fn) [0,1,2,3,4,5,7,8,9,6,10,11,12,13] fun _ a0=>wV 3<|wFix 7 _ false (decide_eq_false b0)<|wV 6<|wL 0<|wL 1<|wV 3<|wN<|jXC 1 rfl<|cD (i>=(n:Int)) (fun e0=>jCR 7 rfl<|retT [I 0]<|⟨_,rfl,om,_,om,a0⟩) fun e0=>gCO a0 8 [0] rfl<|sAdd i 1<|pu2<|sT a0 0 1 (I (i+1)) [I (i+1)] #[.slice a n k,I (i+1)] sizeOf3 fun _ f0=>jOC 3 rfl ?_
 obtain ⟨g0,m0,n0,o0,h0,i0⟩:=RdT.elem hR ((i+1)-1)
 refine drawF f0 [12] (fb 3 0 0 1<|fb 7 0 1 1<|fq 10 0 (h0.up 1 rfl)<|fn) [0,1,2,4,5,6,11,3,7,8,9,10,12,13] fun _ j0=>wV 7<|wL 0<|wL 1<|wSub (i+1) 1<|wI i0<|wL 2<|wO rfl<|cZ (mod_ok g0 m om om j0) ?_
 rintro _ _ ⟨k0,rfl,_,c0⟩
 exact nZ c0 [0,0]<|wV 1<|wN<|jXR 2 rfl<|retT [I k0]<|⟨_,rfl,om,_,om,c0⟩
theorem tape_left {p:Nat} {a:Option Addr} {n k:Nat} {i:Int} {xs:List Int} (hR:RdT Go.E.encI 1 [H] a n k xs) (hi:0<=i/\i<=n) (hS:Sat W w ([(p, .cells #[.slice a n k,I i] 72 (0,0))]::H::F)):
  Calls prog 16 #[Pt p 0] w fun e w'=>∃v:Bool,e= .returned (.bool v)/\Sat W w' ([(p, .cells #[.slice a n k,I i] 72 (0,0))]::H::F):=by
 have b0:=hR.le
 exact callsK 13 func16 rfl<|jCC 6 rfl<|drawF hS [] (fb 3 0 1 1<|fb 7 0 0 1<|fn) [0,1,2,4,5,6,3,7,8,9,10] fun _ a0=>wV 6<|wL 0<|wL 1<|wV 3<|wN<|jXR 2 rfl<|retT [.bool (decide (i<(n:Int)))]<|⟨_,rfl,a0⟩
theorem tape_pick {p:Nat} {a:Option Addr} {n k:Nat} {i:Int} {xs:List Int} (hR:RdT Go.E.encI 1 [H] a n k xs) (hi:0<=i/\i<=n) (hS:Sat W w ([(p, .cells #[.slice a n k,I i] 72 (0,0))]::H::F)) {b:Option Addr} {m cap:Nat} {l:List Int} (hL:RdT Go.E.encI 1 [H] b m cap l) (h0:0<m) (hm:m<=1000000):
  Calls prog 18 #[Pt p 0, .slice b m cap] w fun e w'=>∃x:Int,e= .returned (I x)/\x∈l/\∃i':Int,(0<=i'/\i'<=n)/\Sat W w' ([(p, .cells #[.slice a n k,I i'] 72 (0,0))]::H::F):=by
 have g0:=hR.le
 refine callsK 12 func18 rfl<|jCO 11 rfl<|cZ (tape_next (hR.fl 0) om hS.flat1 (m:Int) om) ?_
 rintro _ _ ⟨c0,rfl,_,_,_,d0⟩
 have a0:=d0.unflat1
 exact sII hL c0 fun b0 _ _ e0 f0=>sMp a0 (f0.up 1 rfl) 0 (I b0)<|jOR 4 rfl<|retT [I b0]<|⟨_,rfl,List.mem_of_getElem? e0,_,om,a0⟩
def ascFrom (i:Int):Int->List Int->Bool
  |_,[]=>true
  |a,x::l=>(decide (a<x)&&decide (x<i))&&ascFrom i x l
def lastD:Int->List Int->Int
  |a,[]=>a
  |_,x::l=>lastD x l
theorem lastD_snoc (a:Int) (l:List Int) (x:Int):lastD a (l++[x])=x:=by
  induction l generalizing a with
  |nil=>rfl
  |cons y l ih=>exact ih y
theorem asc_snoc (i a:Int) (l:List Int) (x:Int):ascFrom i a (l++[x])=(ascFrom i a l&&(decide (lastD a l<x)&&decide (x<i))):=by
  induction l generalizing a with
  |nil=>simp [ascFrom,lastD];try rfl
  |cons y l ih=>simp only [List.cons_append,ascFrom,ih,lastD,Bool.and_assoc];try rfl
theorem asc_take {i a x:Int} {l:List Int} {k:Nat} (hx:l[k]?=some x):ascFrom i a (l.take (k+1))=(ascFrom i a (l.take k)&&(decide (lastD a (l.take k)<x)&&decide (x<i))):=by rw [take_succ_at hx,asc_snoc]
theorem asc_pre {i a:Int}:∀{l m:List Int},ascFrom i a (l++m)=true->ascFrom i a l=true
  |[],_,_=>rfl
  |x::l,m,h=>by
    simp only [List.cons_append,ascFrom,Bool.and_eq_true] at h⊢
    exact ⟨h.1,asc_pre h.2⟩
theorem asc_no {i a x:Int} {l:List Int} {k:Nat} (hx:l[k]?=some x) (h:¬(lastD a (l.take k)<x/\x<i)):ascFrom i a l=false:=by
  cases h2:ascFrom i a l with
  |false=>rfl
  |true=>
    rw [<-List.take_append_drop (k+1) l] at h2
    have h3:=asc_pre h2
    rw [asc_take hx] at h3
    simp only [Bool.and_eq_true,decide_eq_true_eq] at h3
    exact absurd h3.2 h
theorem lastD_at {a:Int}:∀{l:List Int} {k:Nat} {y:Int},l[k]?=some y->lastD a (l.take (k+1))=y:=by
  intro l k y h
  rw [take_succ_at h,lastD_snoc]
theorem lastD_pred {a y:Int} {l:List Int} {j:Nat} (h0:0<j) (hy:l[((j:Int)-1).toNat]?=some y):lastD a (l.take j)=y:=by
  have e:j=((j:Int)-1).toNat+1:=by omega
  rw [e];exact lastD_at (by rw [<-hy])
theorem asc_mem {i a:Int}:∀{l:List Int},ascFrom i a l=true->∀x∈l,a<x/\x<i
  |[],_,x,h=>by cases h
  |y::l,h,x,hx=>by
    simp only [ascFrom,Bool.and_eq_true,decide_eq_true_eq] at h
    rcases List.mem_cons.1 hx with rfl|hx
    · exact h.1
    · have:=asc_mem h.2 x hx;omega
theorem asc_last {i a:Int}:∀{l:List Int},ascFrom i a l=true->a<=lastD a l
  |[],_=>Int.le_refl _
  |y::l,h=>by
    simp only [ascFrom,Bool.and_eq_true,decide_eq_true_eq] at h
    have:=asc_last h.2
    simp only [lastD];omega
def taskOK (i:Int) (t:Task):Bool:=decide ((1<=t.rows/\t.rows<=128)/\0<=t.scratch)&&ascFrom i (-1) t.deps.l
def tasksOK:Int->List Task->Bool
  |_,[]=>true
  |i,t::l=>taskOK i t&&tasksOK (i+1) l
def validC (l:List Task):Int:=if l.length=0\/4096<l.length then 5 else if tasksOK 0 l then 0 else 1
theorem tasksOK_app (i:Int) (l m:List Task):tasksOK i (l++m)=(tasksOK i l&&tasksOK (i+l.length) m):=by
  induction l generalizing i with
  |nil=>simp [tasksOK]
  |cons t l ih=>simp only [List.cons_append,tasksOK,ih,List.length_cons,Bool.and_assoc];congr 3;omega
theorem tasksOK_take {l:List Task} {i:Nat} {t:Task} (hx:l[i]?=some t):tasksOK 0 (l.take (i+1))=(tasksOK 0 (l.take i)&&taskOK i t):=by
  have hl:i<l.length:=(List.getElem?_eq_some_iff.1 hx).1
  rw [take_succ_at hx,tasksOK_app,List.length_take,Nat.min_eq_left (by omega)]
  simp [tasksOK]
theorem tasksOK_no {l:List Task} {i:Nat} {t:Task} (hx:l[i]?=some t) (h:taskOK i t=false):tasksOK 0 l=false:=by
  cases h2:tasksOK 0 l with
  |false=>rfl
  |true=>
    rw [<-List.take_append_drop (i+1) l,tasksOK_app,Bool.and_eq_true,tasksOK_take hx] at h2
    simp [h] at h2
theorem validC_bad {l:List Task} (h1:0<l.length) (h2:l.length<=4096) (h:tasksOK 0 l=false):validC l=1:=by unfold validC;rw [if_neg (by omega),h];rfl
theorem validC_ok {l:List Task} (h1:0<l.length) (h2:l.length<=4096) (h:tasksOK 0 l=true):validC l=0:=by unfold validC;rw [if_neg (by omega),if_pos h]
theorem validC_lim {l:List Task} (h:l.length=0\/4096<l.length):validC l=5:=by unfold validC;rw [if_pos h]
theorem validC_zero {l:List Task} (h:validC l=0):0<l.length/\l.length<=4096/\tasksOK 0 l=true:=by
  unfold validC at h
  split at h
  · omega
  · split at h
    · rename_i h1 h2;exact ⟨by omega,by omega,h2⟩
    · omega
theorem r25_valid (al:Option Addr) (nl kl:Nat) (l:List Task) (hl:RdT encTask 9 [H] al nl kl l) (dl:∀z∈l,Task.Ok [H] z) (hS:Sat W w (H::F)):
  Ro prog 108 #[.slice al nl kl] (I (validC l)) W w (H::F):=by
 have C0:=hl.ll
 refine callsK 77 func108 rfl<|jCO 12 rfl<|sE 9 (nl:Int) 0 (fun o0=>jOR 14 rfl<|retT [I 5]<|⟨by rw [validC_lim om];rfl,hS⟩) fun o0=>jOC 6 rfl<|cD ((nl:Int)>4096) (fun p0=>jCR 7 rfl<|retT [I 5]<|⟨by rw [validC_lim om];rfl,hS⟩) fun p0=>jCC 9 rfl<|loopF [0] (γ:=Nat) (fun i R=>⟨[(3,I (i:Int))],R,nl-i,i<=nl/\(tasksOK 0 (l.take i)=true)/\(0<nl/\nl<=4096)⟩) 0 ⟨hS,om,by simp [tasksOK],om⟩ ?_
 rintro i ρ _ ⟨i0,hi,hV,D0⟩
 refine jCC 9 rfl<|CD ((i:Int)<(nl:Int)) (fun q0=>jCR 11 rfl<|retT [I 0]<|⟨by rw [validC_ok om om (by rw [<-List.take_of_length_le (i:=i) (l:=l) om];exact hV)];rfl,i0⟩) fun q0=>jCO 8 rfl<|sIN hl i fun a0 _ _ b0 r0=>sMA i0 (r0.up 0 rfl) 0 (encTask a0)<|sAlloc i0 zeroValue51 fun _ _ s0=>sTk s0 0 rfl (encTask a0) fun _ e0=>nilO ?_
 have F0:=(dl a0 (List.mem_of_getElem? b0)).deps.len;have E0:=(dl a0 (List.mem_of_getElem? b0)).deps.le
 refine gXO e0 8 [0] rfl<|sD 27 (a0.rows<1) (fun t0=>jOR 24 rfl<|retT [I 1]<|(by have u0:=(e0.dropAt 0 rfl);have A0:taskOK i a0=false:=(by unfold taskOK;rw [decide_eq_false om];rfl);exact ⟨by rw [validC_bad om om (tasksOK_no b0 A0)];rfl,u0⟩)) fun t0=>gOO e0 5 [0] rfl<|sD 32 (a0.rows>128) (fun v0=>jOR 19 rfl<|retT [I 1]<|(by have w0:=(e0.dropAt 0 rfl);have A0:taskOK i a0=false:=(by unfold taskOK;rw [decide_eq_false om];rfl);exact ⟨by rw [validC_bad om om (tasksOK_no b0 A0)];rfl,w0⟩)) fun v0=>gOC e0 6 [0] rfl<|cD (a0.scratch<0) (fun x0=>jCR 12 rfl<|retT [I 1]<|(by have y0:=(e0.dropAt 0 rfl);have A0:taskOK i a0=false:=(by unfold taskOK;rw [decide_eq_false om];rfl);exact ⟨by rw [validC_bad om om (tasksOK_no b0 A0)];rfl,y0⟩)) fun x0=>jCC 8 rfl<|loopF [0,3,4] (γ:=Nat) (fun j R=>⟨[(5,I (j:Int))],R,a0.deps.n-j,j<=a0.deps.n/\(ascFrom i (-1) (a0.deps.l.take j)=true)⟩) 0 ⟨e0,om,by simp [ascFrom]⟩ ?_
 rintro j ρ _ ⟨f0,hj,hA⟩
 refine gCC f0 10 [0] rfl<|CD ((j:Int)<(a0.deps.n:Int)) (fun z0=>jCO 8 rfl<|sAdd (i:Int) 1<|jOI 2 rfl<|⟨i+1,od,alB,(f0.dropAt 0 rfl),om,(by rw [tasksOK_take b0,hV];unfold taskOK;rw [decide_eq_true om,<-List.take_of_length_le (i:=j) (l:=a0.deps.l) om,hA];rfl),om⟩) fun z0=>jCC 5 rfl ?_
 obtain ⟨j0,t1,u1,g0,c0,d0⟩:=RdT.elem (dl a0 (List.mem_of_getElem? b0)).deps (j:Int)
 rw [Int.toNat_natCast] at g0
 refine bD ((j0:Int)<0) (fun h0=>drawF f0 [] (fb 1 0 6 1<|fq 4 0 (c0.up 1 rfl)<|fn) [0,2,1,3,4,5,6,7,9,12,8,10,11,13,14,15,16,17,18,19,21,24,26,27,20,22,23,25,28,29,30,31,32] fun _ b1=>wV 2<|wL 0<|wI d0<|wL 1<|wV 2<|wFix 50 _ true (decide_eq_true h0)<|wV 26<|wN<|jXR 17 rfl<|retT [I 1]<|(by have c1:=(b1.dropAt 0 rfl);have B0:=asc_last hA;have A0:taskOK i a0=false:=(by unfold taskOK;rw [asc_no g0 om];simp);exact ⟨by rw [validC_bad om om (tasksOK_no b0 A0)];rfl,c1⟩)) fun h0=>bD ((j0:Int)>=(i:Int)) (fun k0=>drawF f0 [] (fb 1 0 6 1<|fq 4 0 (c0.up 1 rfl)<|fb 8 0 6 1<|fq 11 0 (c0.up 1 rfl)<|fn) [0,2,1,3,4,5,6,7,9,12,8,10,11,13,14,15,16,17,18,19,21,24,26,27,20,22,23,25,28,29,30,31,32] fun _ d1=>wV 2<|wL 0<|wI d0<|wL 1<|wV 2<|wFix 50 _ false (decide_eq_false h0)<|wV 3<|wL 2<|wI d0<|wL 3<|wV 3<|wFix 59 _ true (decide_eq_true k0)<|wV 17<|wN<|jXR 17 rfl<|retT [I 1]<|(by have e1:=(d1.dropAt 0 rfl);have B0:=asc_last hA;have A0:taskOK i a0=false:=(by unfold taskOK;rw [asc_no g0 om];simp);exact ⟨by rw [validC_bad om om (tasksOK_no b0 A0)];rfl,e1⟩)) fun k0=>?_
 refine bC (((j:Int):Int)>0) (fun l0=>drawF f0 [] (fb 1 0 6 1<|fq 4 0 (c0.up 1 rfl)<|fb 8 0 6 1<|fq 11 0 (c0.up 1 rfl)<|fn) [0,2,1,3,4,5,6,7,9,12,8,10,11,13,14,15,16,17,18,19,21,24,26,27,20,22,23,25,28,29,30,31,32] fun _ f1=>wV 2<|wL 0<|wI d0<|wL 1<|wV 2<|wFix 50 _ false (decide_eq_false h0)<|wV 3<|wL 2<|wI d0<|wL 3<|wV 3<|wFix 59 _ false (decide_eq_false k0)<|wV 3<|wFix 62 _ false (decide_eq_false l0)<|wV 14<|wN<|jXO 7 rfl<|sAdd (j:Int) 1<|jOI 2 rfl<|⟨j+1,od,alB,f1,om,(by rw [asc_take g0,hA];simp;(obtain rfl:j=0:=by omega);simp only [List.take_zero,lastD];omega)⟩) fun l0=>?_
 obtain ⟨g1,v1,w1,m0,h1,i1⟩:=RdT.elem (dl a0 (List.mem_of_getElem? b0)).deps ((j:Int)-1)
 refine drawF f0 [] (fb 1 0 6 1<|fq 4 0 (c0.up 1 rfl)<|fb 8 0 6 1<|fq 11 0 (c0.up 1 rfl)<|fb 20 0 6 1<|fq 23 0 (c0.up 1 rfl)<|fb 25 0 6 1<|fq 29 0 (h1.up 1 rfl)<|fn) [0,2,1,3,4,5,6,7,9,12,8,10,11,13,14,15,16,17,18,19,21,24,26,27,20,22,23,25,28,29,30,31,32] fun _ n0=>wV 2<|wL 0<|wI d0<|wL 1<|wV 2<|wFix 50 _ false (decide_eq_false h0)<|wV 3<|wL 2<|wI d0<|wL 3<|wV 3<|wFix 59 _ false (decide_eq_false k0)<|wV 3<|wFix 62 _ true (decide_eq_true l0)<|wV 4<|wSub (j:Int) 1<|wL 4<|wI d0<|wL 5<|wL 6<|wI i1<|wL 7<|wV 3<|wN<|jXC 1 rfl<|CD (j0<=g1) (fun j1=>jCO 5 rfl<|sAdd (j:Int) 1<|jOI 2 rfl<|⟨j+1,od,alB,n0,om,(by rw [asc_take g0,hA];simp;rw [lastD_pred om m0];omega)⟩) fun j1=>jCR 15 rfl<|retT [I 1] ?_
 have k1:=(n0.dropAt 0 rfl)
 have B0:=asc_last hA
 have A0:taskOK i a0=false:=by unfold taskOK;rw [asc_no g0 (by rw [lastD_pred om m0];omega)];simp
 exact ⟨by rw [validC_bad om om (tasksOK_no b0 A0)];rfl,k1⟩
theorem b_valid (t:Task) (ix:Int) (ht:Task.Ok [H] t) (hS:Sat W w (H::F)):
  Ro prog 105 #[.agg (encTask t).toArray,I ix] (.bool (taskOK ix t)) W w (H::F):=by
 have g0:=ht.deps.ll
 refine callsK 38 func105 rfl<|jCO 2 rfl<|sBx hS (encTask t) fun _ _ d0=>gOC d0 18 [0] rfl<|loopF [1,2,9,10] (γ:=Nat×Int) (fun ⟨i,la⟩ R=>⟨[(11,I (i:Int)),(5,I la)],R,t.deps.n-i,i<=t.deps.n/\(ascFrom ix (-1) (t.deps.l.take i)=true)/\(la=lastD (-1) (t.deps.l.take i))⟩) (0,(-1)) ⟨d0,om,by simp [ascFrom],rfl⟩ ?_
 rintro ⟨i,la⟩ ρ _ ⟨a0,hi,hA,i0⟩
 exact jCC 6 rfl<|CD ((i:Int)<(t.deps.n:Int)) (fun e0=>gCO a0 11 [0] rfl<|SD 28 (t.rows>=1) (fun f0=>jOR 13 rfl<|retT [.bool false]<|⟨by unfold taskOK;rw [decide_eq_false om];rfl,(a0.dropAt 0 rfl)⟩) fun f0=>gOO a0 5 [0] rfl<|SD 33 (t.rows<=128) (fun h0=>jOR 8 rfl<|retT [.bool false]<|⟨by unfold taskOK;rw [decide_eq_false om];rfl,(a0.dropAt 0 rfl)⟩) fun h0=>gOR a0 8 [0] rfl<|retT [.bool (decide ((t.scratch:Int)>=0))]<|⟨by unfold taskOK;rw [<-List.take_of_length_le (i:=i) (l:=t.deps.l) om,hA,Bool.and_true];exact rB (decide_eq_decide.2 om),(a0.dropAt 0 rfl)⟩) fun e0=>jCO 6 rfl<|sIN ht.deps i fun c0 _ _ b0 k0=>sMp a0 (k0.up 1 rfl) 0 (I c0)<|jOO 10 rfl<|sD 18 (c0<=la) (fun l0=>jOR 19 rfl<|retT [.bool false]<|⟨by unfold taskOK;rw [asc_no b0 om,Bool.and_false];rfl,(a0.dropAt 0 rfl)⟩) fun l0=>jOC 6 rfl<|cD (c0>=ix) (fun n0=>jCR 12 rfl<|retT [.bool false]<|⟨by unfold taskOK;rw [asc_no b0 om,Bool.and_false];rfl,(a0.dropAt 0 rfl)⟩) fun n0=>jCO 9 rfl<|sAdd (i:Int) 1<|jOI 2 rfl<|⟨(i+1,c0),od,alB,a0,om,(by rw [asc_take b0,hA];simp;omega),(lastD_at b0).symm⟩
theorem asc_grow {i j a:Int} (hij:i<=j):∀{l:List Int} {a:Int},ascFrom i a l=true->ascFrom j a l=true
  |[],_,_=>rfl
  |x::l,a,h=>by
    simp only [ascFrom,Bool.and_eq_true,decide_eq_true_eq] at h⊢
    exact ⟨⟨h.1.1,by omega⟩,asc_grow (a:=a) hij h.2⟩
theorem asc_lt {i:Int}:∀{l:List Int} {a:Int},a<i->ascFrom i a l=true->lastD a l<i
  |[],_,h0,_=>h0
  |y::l,_,_,h=>by
    simp only [ascFrom,Bool.and_eq_true,decide_eq_true_eq] at h
    exact asc_lt (l:=l) h.1.2 h.2
theorem asc_add {j:Nat} {l:List Int} (h:ascFrom j (-1) l=true):ascFrom ((j+1:Nat):Int) (-1) (l++[(j:Int)])=true:=by
  have h1:=asc_lt (by omega) h
  rw [asc_snoc,asc_grow (j:=((j+1:Nat):Int)) (a:=0) (by omega) h]
  simp;omega
theorem taskOK_of {i:Int} {t:Task} (h:(1<=t.rows/\t.rows<=128)/\0<=t.scratch) (h2:ascFrom i (-1) t.deps.l=true):taskOK i t=true:=by unfold taskOK;rw [decide_eq_true h,h2];rfl
theorem tasksOK_snoc {l:List Task} {i:Nat} {t:Task} (h:tasksOK 0 l=true) (hl:l.length=i) (ht:taskOK i t=true):tasksOK 0 (l++[t])=true:=by
  rw [tasksOK_app,h,hl];simp [tasksOK,ht]
theorem tg_tasks {p:Nat} {a:Option Addr} {n k:Nat} {i:Int} {xs:List Int} (hR:RdT Go.E.encI 1 [H] a n k xs) (hi:0<=i/\i<=n) (hS:Sat W w ([(p, .cells #[.slice a n k,I i] 72 (0,0))]::H::F)) (m0:Int) (hm:1<=m0/\m0<=64):
  Calls prog 17 #[Pt p 0,I m0] w fun e w'=>∃(az:Option Addr) (nz:Nat) (kz:Nat) (zs:List Task) (C:Chunk) (G:Chunk),e= .returned (.slice az nz kz)/\(OwnT encTask 51 9 az nz kz zs C)/\(∀z∈zs,Task.Ok [G] z)/\(1<=zs.length/\zs.length<=m0.toNat/\tasksOK 0 zs=true)/\(∀z∈zs,z.scratch<=512)/\(∀z∈zs,z.rows<=3)/\∃i':Int,(0<=i'/\i'<=n)/\Sat W w' ([(p, .cells #[.slice a n k,I i'] 72 (0,0))]::C::G::H::F):=by
 have Q0:=hR.le
 refine callsK 45 func17 rfl<|jCO 14 rfl<|cZ (tape_next (hR.fl 0) om hS.flat1 m0 om) ?_
 rintro _ _ ⟨c0,rfl,_,k0,_,l0⟩
 refine sAdd 1 c0<|jOC 10 rfl<|loopF [0,6] (γ:=Nat×Int×(List Task)×(Option Addr)×Nat×Nat×Chunk×Chunk) (fun ⟨i,G0,zs,E0,D0,H0,F0,A0⟩ R=>⟨[(7,I (i:Int)),(5, .slice E0 D0 H0)],A0::F0::[(p, .cells #[.slice a n k,I G0] 72 (0,0))]::R,(((1+c0)).toNat)-i,i<=((1+c0)).toNat/\(tasksOK 0 zs=true)/\(zs.length=i)/\((∀z∈zs,z.scratch<=512))/\((∀z∈zs,z.rows<=3))/\(0<=G0/\G0<=n)/\OwnT encTask 51 9 E0 D0 H0 zs F0/\(∀z∈zs,Task.Ok [A0] z)⟩) (0,k0,[],none,0,0,[],[]) ⟨(Sat.nilc (Sat.nilc l0.unflat1)),om,rfl,by rfl,(by intro z hz;cases hz),(by intro z hz;cases hz),om,(OwnT.nil (enc:=encTask) (E:=51) (sz:=9) fR),(by intro z hz;cases hz)⟩ ?_
 rintro ⟨i,G0,zs,E0,D0,H0,F0,A0⟩ ρ _ ⟨f0,hi,hT,O0,J0,I0,M0,s0,C0⟩
 have L0:=s0.ll
 refine jCC 8 rfl<|CD ((i:Int)<(1+c0)) (fun r0=>jCR 12 rfl<|retT [.slice E0 D0 H0]<|⟨_,_,_,zs,F0,A0,rfl,s0,C0,⟨om,om,hT⟩,J0,I0,_,om,(f0.picks [1,2])⟩) fun r0=>jCO 7 rfl ?_
 have t0:=(f0.pick 2 rfl)
 refine cZ (tape_next (hR.fl 2) om t0.flat1 3 om) ?_
 rintro _ _ ⟨b0,rfl,_,_,_,u0⟩
 refine sAdd 1 b0<|pu1<|sBK u0.unflat1 #[I 16,I 0,I 48,I 512] 3 fun _ _ w0=>?_
 have x0:=(w0.pick 1 rfl)
 refine cZ (tape_pick (hR.fl 3) om x0.flat1 (RdT.flat (RdT.blk (enc:=Go.E.encI) (sz:=1) (xs:=[16,0,48,512]) (fun _=>(by rfl)) 4 0 rfl rfl rfl om)) om om) ?_
 rintro _ _ ⟨a0,rfl,y0,z0,_,a1⟩
 have b1:=a1.unflat1
 have n2:(a0:Int)=16\/(a0:Int)=0\/(a0:Int)=48\/(a0:Int)=512:=by simpa using y0
 refine pu1<|sAlloc b1 zeroValue51 fun c1 _ d1=>sTk d1 0 rfl (encTask {zTask with rows:=(1+b0),scratch:=a0}) fun _ e1=>jOC 9 rfl<|loopF [0,6,7,5,8] (γ:=Nat×Int×(List Int)×SO) (fun ⟨j,B0,ds,p0,o0,v0,q0⟩ R=>⟨[(9,I (j:Int))],q0::[(c1, .cells #[I 0,I 0,I 0,I 0,I 0,I 0, .slice p0 o0 v0,I (1+b0),I a0] 51 (0,0))]::[(p, .cells #[.slice a n k,I B0] 72 (0,0))]::R,i-j,j<=i/\(ascFrom j (-1) ds=true)/\(ds.length<=j)/\(0<=B0/\B0<=n)/\OwnT Go.E.encI 3 1 p0 o0 v0 ds q0⟩) (0,z0,[],none,0,0,[]) ⟨(Sat.nilc e1),om,rfl,by simp,om,(OwnT.nil (enc:=Go.E.encI) (E:=3) (sz:=1) fR)⟩ ?_
 rintro ⟨j,B0,ds,p0,o0,v0,q0⟩ ρ _ ⟨d0,hj,hA,P0,N0,n0⟩
 have K0:=n0.ll
 refine jCC 8 rfl<|cD ((j:Int)<(i:Int)) (fun h1=>jCO 7 rfl<|(by have i1:=(d0.pick 2 rfl);refine cZ (tape_next (hR.fl 5) om i1.flat1 3 om) ?_;rintro _ _ ⟨j1,rfl,_,g0,_,k1⟩;have e0:=k1.unflat1;exact jOC 3 rfl<|CE j1 0 (fun l1=>jCO 5 rfl<|sAdd (j:Int) 1<|jOI 2 rfl<|⟨(j+1,g0,ds,p0,o0,v0,q0),od,alB,(e0.picks [2,2]),om,(asc_grow (a:=0) om hA),by first|omega|(simp;omega),om,n0⟩) fun l1=>gCO e0 4 [2] rfl<|sBK e0 #[I (j:Int)] 3 fun _ _ n1=>sApp (nb:=8) n1 n0 2 (RdT.blk (enc:=Go.E.encI) (sz:=1) (xs:=[(j:Int)]) fR 1 0 rfl rfl rfl om) underlying22 (i:=Tryz.t3) kr fR fun h0 i0 o1 _ q1 r1=>pu1<|tWk r1 3 rfl 6 (.slice h0 (o0+1) i0) fun _ s1=>jOO 5 rfl<|sAdd (j:Int) 1<|jOI 2 rfl<|⟨(j+1,g0,(ds++[(j:Int)]),h0,(o0+1),i0,o1),od,alB,((s1.picks [3,3]).dropAt 2 rfl),om,(asc_add hA),by first|omega|(simp;omega),om,q1⟩)) fun h1=>?_
 refine gCO d0 8 [901] rfl<|sBK d0 #[I 0,I 0,I 0,I 0,I 0,I 0, .slice p0 o0 v0,I (1+b0),I a0] 51 fun _ _ u1=>sApp (nb:=88) u1 s0 6 (RdT.blk (enc:=encTask) (sz:=9) (xs:=[(⟨0,0,0,0,0,0,⟨p0,o0,v0,ds⟩,(1+b0),a0⟩:Task)]) fR 1 0 rfl rfl rfl om) underlying45 (i:=Tryz.t51) kr fR fun v1 w1 j0 _ x1 y1=>jOO 6 rfl<|sAdd (i:Int) 1<|jOI 2 rfl ?_
 have z1:=((y1.picks [6,6,3]).drops [3,3,4])
 exact ⟨(i+1,B0,(zs++[(⟨0,0,0,0,0,0,⟨p0,o0,v0,ds⟩,(1+b0),a0⟩:Task)]),v1,(D0+1),w1,j0,(q0++A0)),od,alB,(Sat.perm (cs':=(q0++A0)::(j0::[(p, .cells #[.slice a n k,I B0] 72 (0,0))]::H::F)) z1 (by simp)),om,(tasksOK_snoc hT O0 (taskOK_of (by dsimp only;omega) (by dsimp only;rw [show i=j by omega];exact hA))),by simp;omega,(by intro z hz;rcases List.mem_append.1 hz with h|h;exact J0 z h;rw [List.mem_singleton.1 h];dsimp only;omega),(by intro z hz;rcases List.mem_append.1 hz with h|h;exact I0 z h;rw [List.mem_singleton.1 h];dsimp only;omega),om,x1,(by
   intro z hz
   rcases List.mem_append.1 hz with h|h
   ·exact (C0 z h).of_mem mS
   ·simp only [List.mem_singleton] at h;subst h;exact ⟨(n0.rdAt (cs:=[q0]) 0 rfl).of_mem mS⟩)⟩
structure BEnt where
  state:Int
  attempt:Int
  pending:Int
  next:Sl Int
def encBEnt (x:BEnt):List Value:=[.int .i64 x.state, .int .i64 x.attempt, .int .i64 x.pending, .slice x.next.a x.next.n x.next.k]
structure BEntV where
  state:Int
  attempt:Int
  pending:Int
  next:List Int
  deriving DecidableEq
def BEnt.v (x:BEnt):BEntV:=⟨x.state,x.attempt,x.pending,x.next.l⟩
structure BEnt.Ok (cs:List Chunk) (q:BEnt):Prop where
  next:RdT Go.E.encI 1 cs q.next.a q.next.n q.next.k q.next.l
theorem BEnt.Ok.of_mem {cs cs':List Chunk} {x:BEnt} (h:BEnt.Ok cs x) (hm:∀p∈cs.flatten,p∈cs'.flatten):BEnt.Ok cs' x:=⟨h.next.of_mem hm⟩
structure BS where
  deps:List (List Int)
  st:List Int
  att:List Int
def stAt (l:List Int) (i:Int):Int:=if 0<=i then l.getD i.toNat 0 else 0
def openB (st d:List Int):Bool:=d.any fun x=>decide (stAt st x≠4)
def nextOf:Nat->List (List Int)->Int->List Int
  |_,[],_=>[]
  |k,d::D,j=>(if j∈d then [((k:Nat):Int)] else [])++nextOf (k+1) D j
def pendOf (st d:List Int):Int:=((d.filter fun x=>decide (stAt st x≠4)).length:Nat)
def entV (B:BS) (q:Nat):BEntV:=⟨B.st.getD q 0,B.att.getD q 0,pendOf B.st (B.deps.getD q []),nextOf 0 B.deps q⟩
def entsOf (B:BS):List BEntV:=(List.range B.deps.length).map (entV B)
def doneOf (B:BS):Int:=((B.st.filter fun x=>decide (x=4)).length:Nat)
def st0 (d:List Int):Int:=if d.length=0 then 2 else 1
def newB (l:List Task):BS:=⟨l.map (·.deps.l),l.map (fun t=>st0 t.deps.l),l.map (fun _=>0)⟩
theorem nextOf_app (k:Nat) (D:List (List Int)) (d:List Int) (j:Int):nextOf k (D++[d]) j=nextOf k D j++(if j∈d then [((k+D.length:Nat):Int)] else []):=by
  induction D generalizing k with
  |nil=>simp [nextOf]
  |cons e D ih=>simp only [List.cons_append,nextOf,ih,List.append_assoc,List.length_cons];congr 4;simp;omega
def entN (l:List Task) (m:Nat) (D:List (List Int)) (q:Nat):BEntV:=
  if q<m then ⟨st0 ((l.map (·.deps.l)).getD q []),0,(((l.map (·.deps.l)).getD q []).length:Nat),nextOf 0 D q⟩ else ⟨0,0,0,nextOf 0 D q⟩
theorem range_set {α:Type} (n i:Nat) (f:Nat->α) (y:α):((List.range n).map f).set i y=(List.range n).map fun q=>if q=i then y else f q:=by
  apply List.ext_getElem?
  intro q
  rw [List.getElem?_set,List.getElem?_map,List.getElem?_map]
  by_cases h:i=q
  · subst h
    by_cases h2:i<n
    · simp [h2]
    · simp [h2]
  · rw [if_neg h]
    by_cases h2:q<n
    · simp [h2,Ne.symm h]
    · simp [h2]
theorem map_range {α:Type} {n:Nat} {f g:Nat->α} (h:∀q,q<n->f q=g q):(List.range n).map f=(List.range n).map g:=by
  apply List.map_congr_left
  intro q hq
  exact h q (List.mem_range.1 hq)
theorem map_range_at {α:Type} {n i:Nat} {f:Nat->α} (h:i<n):((List.range n).map f)[i]?=some (f i):=by simp [h]
theorem ent_at {es:List BEnt} {n i:Nat} {f:Nat->BEntV} {x:BEnt} (h:es.map BEnt.v=(List.range n).map f) (hx:es[i]?=some x):i<n/\x.v=f i:=by
  have h1:=map_at (f:=BEnt.v) hx
  rw [h] at h1
  have hl:i<n:=(by have:=(List.getElem?_eq_some_iff.1 h1).1;simpa using this)
  rw [map_range_at hl] at h1
  exact ⟨hl,(Option.some.inj h1).symm⟩
theorem ents_set {es:List BEnt} {n i:Nat} {f g:Nat->BEntV} {x':BEnt} (h:es.map BEnt.v=(List.range n).map f) (h1:∀q,q<n->q≠i->f q=g q) (h2:i<n->x'.v=g i):(es.set i x').map BEnt.v=(List.range n).map g:=by
  rw [List.map_set,h,range_set]
  apply map_range
  intro q hq
  by_cases e:q=i
  · subst e;rw [if_pos rfl,h2 hq]
  · rw [if_neg e,h1 q hq e]
def Nx (es:List BEnt) (cs:List Chunk):Prop:=es.length=cs.length/\∀(i:Nat) e c,es[i]?=some e->cs[i]?=some c->OwnT Go.E.encI 3 1 e.next.a e.next.n e.next.k e.next.l c
theorem Nx.get {es:List BEnt} {cs:List Chunk} (h:Nx es cs) {i:Nat} {e:BEnt} (he:es[i]?=some e):∃c,cs[i]?=some c/\OwnT Go.E.encI 3 1 e.next.a e.next.n e.next.k e.next.l c:=by
  have hl:i<cs.length:=by rw [<-h.1];exact (List.getElem?_eq_some_iff.1 he).1
  exact ⟨cs[i],by simp [hl],h.2 i e _ he (by simp [hl])⟩
theorem Nx.set {es:List BEnt} {cs:List Chunk} (h:Nx es cs) {i:Nat} {e:BEnt} {c:Chunk} (hO:OwnT Go.E.encI 3 1 e.next.a e.next.n e.next.k e.next.l c):Nx (es.set i e) (cs.set i c):=by
  refine ⟨by simp [h.1],fun q e' c' h1 h2=>?_⟩
  rw [List.getElem?_set] at h1 h2
  by_cases hq:i=q
  · rw [if_pos hq] at h1 h2
    split at h1
    · split at h2
      · cases h1;cases h2;exact hO
      · cases h2
    · cases h1
  · rw [if_neg hq] at h1 h2;exact h.2 q e' c' h1 h2
theorem Nx.keep {es:List BEnt} {cs:List Chunk} (h:Nx es cs) {i:Nat} {e e':BEnt} (he:es[i]?=some e) (hn:e'.next=e.next):Nx (es.set i e') cs:=by
  obtain ⟨c,hc,hO⟩:=h.get he
  have h2:=h.set (i:=i) (e:=e') (c:=c) (by rw [hn];exact hO)
  have e2:cs.set i c=cs:=by
    apply List.ext_getElem?
    intro q
    rw [List.getElem?_set]
    by_cases hq:i=q
    · subst hq;rw [if_pos rfl,hc];simp [(List.getElem?_eq_some_iff.1 hc).1]
    · rw [if_neg hq]
  rw [e2] at h2;exact h2
theorem Nx.rep (n:Nat) (z:BEnt) (hz:z.next=⟨none,0,0,[]⟩):Nx (List.replicate n z) (List.replicate n []):=by
  exact ⟨by simp,fun i e c h1 h2=>(by have he:=List.eq_of_mem_replicate (List.mem_of_getElem? h1);have hc:=List.eq_of_mem_replicate (List.mem_of_getElem? h2);subst he;subst hc;rw [hz];exact OwnT.nil (fun _=>rfl))⟩
theorem Nx.ok {es:List BEnt} {cs:List Chunk} (h:Nx es cs):∀z∈es,BEnt.Ok [cs.flatten] z:=by
  intro z hz
  obtain ⟨i,hi⟩:=List.mem_iff_getElem?.1 hz
  obtain ⟨c,hc,hO⟩:=h.get hi
  exact ⟨hO.rd (fun p hp=>by simp only [List.flatten_cons,List.flatten_nil,List.append_nil];exact mem_in i hc hp)⟩
theorem Sat.openN {W w:World} {cs:List Chunk} {c:Chunk} {A F:List Chunk} (i:Nat) (hi:cs[i]?=some c) (h:Sat W w (A++cs.flatten::F)):Sat W w (c::A++(cs.eraseIdx i).flatten::F):=by
  exact h.perm<|(by have h1:=flatten_pick cs i c hi;simp only [List.flatten_append,List.flatten_cons,List.cons_append];exact (List.Perm.append_left _ (List.Perm.append_right _ h1)).trans<|(by simp only [<-List.append_assoc];exact List.Perm.append_right _ (List.Perm.append_right _ List.perm_append_comm)))
theorem Sat.shutN {W w:World} {cs:List Chunk} {c d:Chunk} {A F:List Chunk} (i:Nat) (hi:cs[i]?=some c) (h:Sat W w (d::A++(cs.eraseIdx i).flatten::F)):Sat W w (A++(cs.set i d).flatten::F):=by
  exact h.perm<|(by have h1:=(flatten_set cs i c d hi).symm;simp only [List.flatten_append,List.flatten_cons,List.cons_append];exact List.Perm.trans (by simp only [<-List.append_assoc];exact List.Perm.append_right _ (List.Perm.append_right _ List.perm_append_comm)) (List.Perm.append_left _ (List.Perm.append_right _ h1)))
theorem ents_init (l:List Task) (n:Nat) (z:BEnt) (hz:z.v=⟨0,0,0,[]⟩):(List.replicate n z).map BEnt.v=(List.range n).map (entN l 0 []):=by
  rw [List.map_replicate,hz]
  apply List.ext_getElem?
  intro q
  by_cases h:q<n
  · simp [h,entN,nextOf]
  · simp [h]
theorem depsAt {l:List Task} {i:Nat} {t:Task} (h:l[i]?=some t):(l.map (·.deps.l)).getD i []=t.deps.l:=by simp [List.getD_eq_getElem?_getD,h]
theorem ents_open {es:List BEnt} {l:List Task} {n i:Nat} {t:Task} {x x':BEnt} (h:es.map BEnt.v=(List.range n).map (entN l i ((l.map (·.deps.l)).take i))) (ht:l[i]?=some t) (hx:es[i]?=some x)
  (h1:x'.state=st0 t.deps.l) (h2:x'.attempt=x.attempt) (h3:x'.pending=(t.deps.l.length:Nat)) (h4:x'.next=x.next):(es.set i x').map BEnt.v=(List.range n).map (entN l (i+1) ((l.map (·.deps.l)).take i++[t.deps.l.take 0])):=by
 have h0:=ent_at h hx
 have e1:=h0.2
 simp only [entN,Nat.lt_irrefl,if_false] at e1
 refine ents_set h (fun q hq a0=>?_) (fun hi=>?_)
 ·simp only [entN,List.take_zero,nextOf_app,List.not_mem_nil,if_false,List.append_nil]
  by_cases h6:q<i
  ·rw [if_pos h6,if_pos om]
  ·rw [if_neg h6,if_neg om]
 · exact (by simp only [entN,List.take_zero,nextOf_app,List.not_mem_nil,if_false,List.append_nil,Nat.lt_succ_self,if_true,depsAt ht,BEnt.v,h1,h2,h3,h4];have e2:=congrArg BEntV.attempt e1;have e3:=congrArg BEntV.next e1;simp only [BEnt.v] at e2 e3;rw [e2,e3])
theorem ents_dep {es:List BEnt} {l:List Task} {n i j:Nat} {t:Task} {d:Int} {x x':BEnt} (h:es.map BEnt.v=(List.range n).map (entN l (i+1) ((l.map (·.deps.l)).take i++[t.deps.l.take j]))) (ht:l[i]?=some t)
  (hd:t.deps.l[j]?=some d) (hA:ascFrom i (-1) t.deps.l=true) (hx:es[d.toNat]?=some x)
  (h1:x'.state=x.state) (h2:x'.attempt=x.attempt) (h3:x'.pending=x.pending) (h4:x'.next.l=x.next.l++[(i:Int)]):(es.set d.toNat x').map BEnt.v=(List.range n).map (entN l (i+1) ((l.map (·.deps.l)).take i++[t.deps.l.take (j+1)])):=by
 have hm:=asc_mem hA d (List.mem_of_getElem? hd)
 have h0:=ent_at h hx
 have f0:i<l.length:=(List.getElem?_eq_some_iff.1 ht).1
 have d0:((l.map (·.deps.l)).take i).length=i:=by simp;omega
 have a0:d∉t.deps.l.take j:=by
  intro c0
  have h5:ascFrom i (-1) (t.deps.l.take (j+1))=true:=by rw [<-List.take_append_drop (j+1) t.deps.l] at hA;exact asc_pre hA
  rw [asc_take hd,Bool.and_eq_true] at h5
  have h6:∀(l:List Int) (a:Int),ascFrom i a l=true->∀y∈l,y<=lastD a l:=by
   intro l
   induction l with
   |nil=>intro _ _ y hy;cases hy
   |cons z l ih=>
    intro a ha y hy
    simp only [ascFrom,Bool.and_eq_true,decide_eq_true_eq] at ha
    rcases List.mem_cons.1 hy with rfl|hy
    ·exact asc_last ha.2
    ·exact ih z ha.2 y hy
  have h7:=h6 _ _ h5.1 d c0
  have h8:=h5.2
  simp at h8
  omega
 have b0:∀q:Nat,q<n->nextOf 0 ((l.map (·.deps.l)).take i++[t.deps.l.take (j+1)]) q=nextOf 0 ((l.map (·.deps.l)).take i++[t.deps.l.take j]) q++(if q=d.toNat then [(i:Int)] else []):=by
  intro q hq
  rw [nextOf_app,nextOf_app,d0,take_succ_at hd,List.append_assoc]
  congr 1
  by_cases e:q=d.toNat
  · exact (by have e2:(q:Int)=d:=(by omega);rw [e2,if_pos (by simp),if_neg a0,if_pos e];simp)
  ·have e2:(q:Int)≠d:=by omega
   rw [if_neg e,List.append_nil]
   by_cases h9:(q:Int)∈t.deps.l.take j
   ·rw [if_pos (by simp [h9]),if_pos h9]
   ·rw [if_neg (by simp [h9,e2]),if_neg h9]
 have e1:=h0.2
 refine ents_set h (fun q hq e0=>?_) (fun hi=>?_)
 · exact (by have hk:=b0 q hq;rw [if_neg e0,List.append_nil] at hk;simp only [entN,hk])
 ·have hk:=b0 _ hi
  rw [if_pos rfl] at hk
  have a1:=congrArg BEntV.state e1;have a2:=congrArg BEntV.attempt e1;have a3:=congrArg BEntV.pending e1;have a4:=congrArg BEntV.next e1
  simp only [BEnt.v,entN] at a1 a2 a3 a4
  simp only [entN,BEnt.v,h1,h2,h3,h4,a1,a2,a3,a4,hk]
  split<;>rfl
theorem ents_done {es:List BEnt} {l:List Task} {n i:Nat} {t:Task} (h:es.map BEnt.v=(List.range n).map (entN l (i+1) ((l.map (·.deps.l)).take i++[t.deps.l.take t.deps.l.length]))) (ht:l[i]?=some t):
    es.map BEnt.v=(List.range n).map (entN l (i+1) ((l.map (·.deps.l)).take (i+1))):=by
  rw [h,List.take_length,take_succ_at (x:=t.deps.l) (by simp [ht])]
theorem ents_new {es:List BEnt} {l:List Task} {n:Nat} (hn:l.length=n) (h:es.map BEnt.v=(List.range n).map (entN l n ((l.map (·.deps.l)).take n))):es.map BEnt.v=entsOf (newB l):=by
 rw [h]
 unfold entsOf
 have hl:(newB l).deps.length=n:=by simp [newB,hn]
 rw [hl,List.take_of_length_le (by simp [hn])]
 apply map_range
 intro q hq
 have a0:q<l.length:=by omega
 simp only [entN,if_pos hq,entV,newB]
 have e1:(l.map fun t=>st0 t.deps.l).getD q 0=st0 ((l.map (·.deps.l)).getD q []):=by simp [List.getD_eq_getElem?_getD,a0]
 have e2:(l.map fun _=>(0:Int)).getD q 0=0:=by simp [List.getD_eq_getElem?_getD,a0]
 have e3:∀x,stAt (l.map fun t=>st0 t.deps.l) x≠4:=by
  intro x
  unfold stAt
  split
  ·rw [List.getD_eq_getElem?_getD,List.getElem?_map]
   cases l[x.toNat]? with
   |none=>simp
   |some t=>simp [st0];split<;>omega
  ·omega
 have e4:∀d,pendOf (l.map fun t=>st0 t.deps.l) d=(d.length:Nat):=(by intro d;unfold pendOf;rw [List.filter_eq_self.2 (fun x _=>by simp [e3 x])])
 rw [e1,e2,e4]
theorem done_new (l:List Task):doneOf (newB l)=0:=by
  unfold doneOf newB
  rw [List.filter_eq_nil_iff.2]
  · rfl
  · exact (by intro x hx;obtain ⟨t,_,rfl⟩:=List.mem_map.1 hx;simp [st0];split<;>omega)
theorem asc_len {i:Int}:∀{l:List Int} {a:Int},a<i->ascFrom i a l=true->(l.length:Int)<=i-1-a
  |[],_,h0,_=>by simp;omega
  |y::l,_,_,h=>by
    simp only [ascFrom,Bool.and_eq_true,decide_eq_true_eq] at h
    have:=asc_len (l:=l) h.1.2 h.2
    simp only [List.length_cons];omega
def BoardR (p:Nat) (B:BS) (M:Chunk):Prop:=∃(a:Option Addr) (n k:Nat) (es:List BEnt) (c G:Chunk),
  M=[(p, .cells #[.slice a n k, .int .i64 (doneOf B)] 172 (0,0))]++(c++G)/\OwnT encBEnt 175 4 a n k es c/\(∀z∈es,BEnt.Ok [G] z)/\es.map BEnt.v=entsOf B
def RefR (p:Nat) (B:BS) (M:Chunk):Prop:=∃(a:Option Addr) (n k:Nat) (ts:List Task) (sa:Option Addr) (sn sk:Nat) (ta:Option Addr) (tn tk:Nat) (c G cs ct:Chunk),
  M=[(p, .cells #[.slice a n k, .slice sa sn sk, .slice ta tn tk] 179 (0,0))]++(c++(G++(cs++ct)))/\OwnT encTask 51 9 a n k ts c/\(∀z∈ts,Task.Ok [G] z)/\OwnT Go.E.encI 3 1 sa sn sk B.st cs/\OwnT Go.E.encI 3 1 ta tn tk B.att ct/\ts.map (·.deps.l)=B.deps
theorem tasksOK_at {l:List Task} {i:Nat} {t:Task} (h:tasksOK 0 l=true) (hx:l[i]?=some t):taskOK i t=true:=by
  cases h2:taskOK i t with
  |true=>rfl
  |false=>rw [tasksOK_no hx h2] at h;cases h
theorem taskOK_asc {i:Int} {t:Task} (h:taskOK i t=true):ascFrom i (-1) t.deps.l=true:=by unfold taskOK at h;simp only [Bool.and_eq_true] at h;exact h.2
end Go.Proofs.YtkadmghedmodbaaGreat
