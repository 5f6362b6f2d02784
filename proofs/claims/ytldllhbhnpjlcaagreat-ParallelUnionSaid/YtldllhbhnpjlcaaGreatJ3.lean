/- Joined texts, part 3: lemmas for the statement. No condition. -/
import Derived.Test.YtldllhbhnpjlcaaGreatJ2
import Derived.Test.YtldllhbhnpjlcaaGreatProg
import Derived.KernelRfl
import Derived.Lib.Bytealg
import Derived.Shelf.Spec.SlicesGrow
import Derived.Ground.Names8Prog
set_option maxHeartbeats 4000000
set_option linter.unusedSimpArgs false
set_option linter.unusedVariables false
open Nat (reduceEqDiff reduceLT reduceLeDiff reduceMul reduceAdd reduceSub)
open Go.IntKind (i64)
open Go.Proofs.Tryz
open Go.Proofs.Tryz renaming prog → pw
namespace Go.bP
open Go.RowKit
variable{P:Program}{N:Nat}{own:List Nat}{ops:Array Oper}{K:Env->aq->Prop}{env:Env}{H:aq}
def ahl(P:Program)(o:Oper)(W:Env->aq->Prop)(env:Env)(H:aq):Prop:=∃x,zm P o (ev env) H x/\W (bZ env o.dst (.p x)) H
def auH(P:Program)(own:List Nat)(ops:Array Oper)(o:Oper)(W:Env->aq->Prop)(env:Env)(H:aq):Prop:=∃x,zm P o (ev env) (ou own ops H) x/\W (bZ env o.dst (.p x)) H
def afm(P:Program)(own:List Nat)(ops:Array Oper)(o:Oper)(W:Env->aq->Prop)(env:Env)(H:aq):Prop:=∃v H',afg P own ops o (ev env) H v H'/\W (bZ env o.dst v) H'
def ahm(own:List Nat)(o:Oper)(env:Env):Prop:=match o.op with
 | .store _ (.tmp d) _=>∃off,env d = .ptr d off
 |_=>adU own o env
def isS:oh->Bool
 | .s=>true
 |_=>false
def afn(own:List Nat)(ops:Array Oper)(l:List (Oper×oh)):Bool:=l.all λx=>!tf own ops x.1||isS x.2
theorem apD{o:Oper}{env:Env}(h:tf own ops o=true->ahm own o env):adb own ops o env:=by
 obtain⟨dst,op,t,pos,af,g⟩:=o;refine⟨?_,λha=>?_⟩
 ·cases op<;>try trivial
  case store e a x =>
   cases a<;>try trivial
   rename_i k;intro hn;have h1:tf own ops ⟨dst,.store e (.tmp k) x,t,pos,af,g⟩=true:=by unfold tf;simp only[hn,Bool.true_or]
   exact h h1
 ·have h1:tf own ops ⟨dst,op,t,pos,af,g⟩=true:=by unfold tf;rw[ha,Bool.or_true]
  have h2:=h h1;cases op<;>first|exact h2|skip
  case store e a x=>simp[zw,appArg] at ha
def abz(own:List Nat)(o:Oper):Bool:=match o.dst with
 |some d=>!own.contains d
 |none=>true
def er(P:Program)(N:Nat)(own:List Nat)(ops:Array Oper):List (Oper×oh)->(Env->aq->Prop)->Env->aq->Prop
 | [],K,env,H=>K env H
 |(o,c) :: rest,K,env,H=>tB N o.dst/\match lB ops o env with
  |some true=>(match c with
   | .p=>rT o=true/\abz own o=true/\(match jU P o (ev env) cv with
    |some (pre,v,_)=>pre/\er P N own ops rest K (bZ env o.dst v) H
    |none=>False)
   | .q=>bw own o=true/\(match jU P o (ev env) H with
    |some (pre,v,_)=>pre/\er P N own ops rest K (bZ env o.dst v) H
    |none=>ahl P o (er P N own ops rest K) env H)
   | .b=>bw own o=true/\(match jU P o (ev env) (rU H) with
    |some (pre,v,_)=>pre/\er P N own ops rest K (bZ env o.dst v) H
    |none=>False)
   | .o=>bw own o=true/\(match jU P o (ev env) (ou own ops H) with
    |some (pre,v,_)=>pre/\er P N own ops rest K (bZ env o.dst v) H
    |none=>auH P own ops o (er P N own ops rest K) env H)
   | .w=>(match fc P own o (ev env) H with
    |some (pre,v,H')=>pre/\er P N own ops rest K (bZ env o.dst v) H'
    |none=>False)
   | .s=>ahm own o env/\(match fc P own o (ev env) H with
    |some (pre,v,H')=>pre/\er P N own ops rest K (bZ env o.dst v) H'
    |none=>False)
   | .f=>bw own o=true/\afm P own ops o (er P N own ops rest K) env H
   | .t=>opK P own o (er P N own ops rest K) env H)
  |some false=>er P N own ops rest K (bZ env o.dst (.dg [])) H
  |none=>False
theorem gX:∀ (l:List (Oper×oh)) (env:Env) (H:aq),afn own ops l=true->er P N own ops l K env H->akX P N own ops l K env H
 | [],env,H,_,h=>h
 |(o,c) :: rest,env,H,hcl,h=>by
  obtain⟨hd,h⟩:=h;refine⟨hd,?_⟩;have qA:afn own ops rest=true:=by unfold afn at hcl ⊢;rw[List.all_cons,Bool.and_eq_true] at hcl;exact hcl.2
  have hc1:isS c=false->adb own ops o env:=λhc=>apD λhn=>by unfold afn at hcl;rw[List.all_cons,Bool.and_eq_true] at hcl;have:=hcl.1;simp only[hn,hc] at this;cases this
  split at h
  ·rename_i hg;cases c with
   |p =>
    simp only at h;obtain⟨h1,h2,h⟩:=h;split at h
    ·rename_i pre v H' hx;exact .inr ⟨rfl,v,H,.inr ⟨hg,hc1 rfl,pre,arq h1 hx,h.1,rfl,h2⟩,rfl,gX rest _ H qA h.2⟩
    ·exact h.elim
   |q =>
    simp only at h;obtain⟨h1,h⟩:=h;have hno:abz own o=true:=by unfold bw at h1;rw[Bool.and_eq_true] at h1;exact h1.1
    have hall:fc P own o (ev env) H=jU P o (ev env) H:=jL hno;split at h
    ·rename_i pre v H' hx;have:H'=H:=rA h1 (hall.trans hx);subst this;exact .inr ⟨rfl,v,_,.inr ⟨hg,hc1 rfl,h1,rfl,.inl ⟨pre,hx,h.1⟩⟩,rfl,gX rest _ _ qA h.2⟩
    ·rename_i hx;obtain⟨x,hc,hw⟩:=h;exact .inr ⟨rfl,.p x,H,.inr ⟨hg,hc1 rfl,h1,rfl,.inr ⟨x,rfl,hc,hall.trans hx⟩⟩,rfl,gX rest _ H qA hw⟩
   |b =>
    simp only at h;obtain⟨h1,h⟩:=h;have hno:abz own o=true:=by unfold bw at h1;rw[Bool.and_eq_true] at h1;exact h1.1
    split at h
    ·rename_i pre v H' hx;have:H'=rU H:=rA h1 ((jL (H:=rU H) hno).trans hx);subst this;exact .inr ⟨rfl,v,H,.inr ⟨hg,hc1 rfl,h1,rfl,pre,hx,h.1⟩,rfl,gX rest _ _ qA h.2⟩
    ·exact h.elim
   |w =>
    simp only at h;split at h
    ·rename_i pre v H' hx;exact .inr ⟨rfl,v,H',.inr ⟨hg,hc1 rfl,pre,hx,h.1⟩,trivial,gX rest _ H' qA h.2⟩
    ·exact h.elim
   |s =>
    simp only at h;obtain⟨hp,h⟩:=h;split at h
    ·rename_i pre v H' hx;exact .inr ⟨rfl,v,H',.inr ⟨hg,apD λ_=>hp,pre,hx,h.1⟩,trivial,gX rest _ H' qA h.2⟩
    ·exact h.elim
   |f=>simp only at h;obtain⟨h1,v,H',hc,hw⟩:=h;exact .inr ⟨rfl,v,H',.inr ⟨hg,hc1 rfl,h1,hc⟩,trivial,gX rest _ H' qA hw⟩
   |t=>exact .inl ⟨rfl,.inr ⟨hg,afh (λe G hw=>gX rest e G qA hw) h⟩⟩
   |o =>
    simp only at h;obtain⟨h1,h⟩:=h;have hno:abz own o=true:=by unfold bw at h1;rw[Bool.and_eq_true] at h1;exact h1.1
    have hall:fc P own o (ev env) (ou own ops H)=jU P o (ev env) (ou own ops H):=jL hno;split at h
    ·rename_i pre v H' hx;have:H'=ou own ops H:=rA h1 (hall.trans hx);subst this;exact .inr ⟨rfl,v,H,.inr ⟨hg,hc1 rfl,h1,rfl,.inl ⟨pre,hx,h.1⟩⟩,rfl,gX rest _ _ qA h.2⟩
    ·rename_i hx;obtain⟨x,hc,hw⟩:=h;exact .inr ⟨rfl,.p x,H,.inr ⟨hg,hc1 rfl,h1,rfl,.inr ⟨x,rfl,hc,hall.trans hx⟩⟩,rfl,gX rest _ H qA hw⟩
  ·rename_i hg;cases hc:isT c with
   |true=>exact .inl ⟨rfl,.inl ⟨hg,gX rest _ H qA h⟩⟩
   |false=>exact .inr ⟨rfl,.dg [],H,.inl ⟨hg,rfl,rfl⟩,by cases c<;>trivial,gX rest _ H qA h⟩
  ·exact h.elim
def abA(N:Nat)(ops:Array Oper):Bool:=ops.toList.all λo=>match o.dst with
 |some d=>decide (d<N)
 |none=>true
theorem zQ(h:abA N ops=true):∀ (i:Nat) o,ops[i]? = some o->tB N o.dst:=λi o ho=>by
 have:=List.all_eq_true.1 h o (by
  have:=Array.mem_of_getElem? ho;simpa using this)
 cases hd:o.dst with
 |none=>trivial
 |some d=>rw[hd] at this;show d<N;exact bY this
def auI(cs:List oh):List (Nat×oh):=(List.range cs.length).zip cs
def ab8(N:Nat)(own:List Nat)(ops:Array Oper)(m:List Nat)(cs:List oh):Bool:=afl own ops m (auI cs)&&abA N ops&&cs.length == ops.size&&afn own ops (ops.toList.zip cs)
theorem aem{l:List Oper}{cs:List oh}(h:cs.length=l.length):((List.range cs.length).zip cs).filterMap (λx=>l.toArray[x.1]?)=l:=by
 have:((List.range cs.length).zip cs).filterMap (λx=>l.toArray[x.1]?)=(((List.range cs.length).zip cs).map (·.1)).filterMap (λi=>l.toArray[i]?):=by rw[List.filterMap_map];rfl
 rw[this,List.map_fst_zip (by simp),h];apply List.ext_getElem?;intro j;have hf:(List.range l.length).filterMap (λi=>l.toArray[i]?)=l:=by
  have e:∀k,k<=l.length->(List.range k).filterMap (λi=>l.toArray[i]?)=l.take k:=by
   intro k
   induction k with
   |zero=>intro _;simp
   |succ k ih =>
    intro hk;rw[List.range_succ,List.filterMap_append,ih (by omega),List.take_add_one];congr 1;have:l[k]? = some (l[k]'(by omega)):=by simp
    simp[this]
  rw[e l.length (Nat.le_refl _),List.take_length]
 rw[hf]
theorem arx{l:List Oper}(m:List Nat)(cs:List oh)(hok:ab8 N own l.toArray m cs=true)(hw:er P N own l.toArray (l.zip cs) K env H):vf P N own l.toArray K env H:=by
 unfold ab8 at hok;simp only[Bool.and_eq_true,beq_iff_eq] at hok;obtain⟨⟨⟨h1,h2⟩,h3⟩,h4⟩:=hok;have h3:cs.length=l.length:=by simpa using h3
 refine ahk m (auI cs) (l.zip cs) h1 ?_ ?_ (zQ h2) (gX _ _ _ (by simpa using h4) hw)
 ·rw[List.map_fst_zip (by omega)];exact (aem h3).symm
 ·rw[List.map_snd_zip (by omega)];unfold auI;rw[List.map_snd_zip (by simp)]
theorem ary{l:List Oper}(m:List Nat)(pc:List (Nat×oh))(hok:(afl own l.toArray m pc&&abA N l.toArray)=true)(os:List (Oper×oh))(hcl:afn own l.toArray os=true)(h1:os.map (·.1)=pc.filterMap (λx=>l.toArray[x.1]?))(h2:os.map (·.2)=pc.map (·.2))
  (hw:er P N own l.toArray os K env H):vf P N own l.toArray K env H:=by
 rw[Bool.and_eq_true] at hok;exact ahk m pc os hok.1 h1 h2 (zQ hok.2) (gX _ _ _ hcl hw)
def tE(P : Program)(N : Nat)(own : List Nat)(ops : Array Oper)(c : oh)(o : Oper)(rest : List (Oper × oh))(K : Env → aq → Prop)(env : Env)(H : aq) : Prop := match c with
   | .p=>rT o=true/\abz own o=true/\(match jU P o (ev env) cv with
    |some (pre,v,_)=>pre/\er P N own ops rest K (bZ env o.dst v) H
    |none=>False)
   | .q=>bw own o=true/\(match jU P o (ev env) H with
    |some (pre,v,_)=>pre/\er P N own ops rest K (bZ env o.dst v) H
    |none=>ahl P o (er P N own ops rest K) env H)
   | .b=>bw own o=true/\(match jU P o (ev env) (rU H) with
    |some (pre,v,_)=>pre/\er P N own ops rest K (bZ env o.dst v) H
    |none=>False)
   | .o=>bw own o=true/\(match jU P o (ev env) (ou own ops H) with
    |some (pre,v,_)=>pre/\er P N own ops rest K (bZ env o.dst v) H
    |none=>auH P own ops o (er P N own ops rest K) env H)
   | .w=>(match fc P own o (ev env) H with
    |some (pre,v,H')=>pre/\er P N own ops rest K (bZ env o.dst v) H'
    |none=>False)
   | .s=>ahm own o env/\(match fc P own o (ev env) H with
    |some (pre,v,H')=>pre/\er P N own ops rest K (bZ env o.dst v) H'
    |none=>False)
   | .f=>bw own o=true/\afm P own ops o (er P N own ops rest K) env H
   | .t=>opK P own o (er P N own ops rest K) env H
def anI(P:Program)(N:Nat)(own:List Nat)(ops:Array Oper)(r:Option (Prop×AV×aq))(o:Oper)(rest:List (Oper×oh))(K:Env->aq->Prop)(env:Env)(H:aq):Prop:=match r with
 |some (pre,v,H')=>pre/\er P N own ops rest K (bZ env o.dst v) H'
 |none=>kf P o (er P N own ops rest K) env H
def auJ(P:Program)(N:Nat)(own:List Nat)(ops:Array Oper)(r:Option (Prop×AV×aq))(o:Oper)(rest:List (Oper×oh))(K:Env->aq->Prop)(env:Env)(H:aq):Prop:=match r with
 |some (pre,v,_)=>pre/\er P N own ops rest K (bZ env o.dst v) H
 |none=>auH P own ops o (er P N own ops rest K) env H
def vD(P : Program)(N : Nat)(own : List Nat)(ops : Array Oper)(g : Option Bool)(c : oh)(o : Oper)(rest : List (Oper × oh))(K : Env → aq → Prop)(env : Env)(H : aq) : Prop := match g with
  |some true=>tE P N own ops c o rest K env H
  |some false=>er P N own ops rest K (bZ env o.dst (.dg [])) H
  |none=>False
def anJ(P:Program)(N:Nat)(own:List Nat)(ops:Array Oper)(r:Option (Prop×AV×aq))(o:Oper)(rest:List (Oper×oh))(K:Env->aq->Prop)(env:Env)(H:aq):Prop:=match r with
 |some (pre,v,_)=>pre/\er P N own ops rest K (bZ env o.dst v) H
 |none=>ahl P o (er P N own ops rest K) env H
def anK(P:Program)(N:Nat)(own:List Nat)(ops:Array Oper)(r:Option (Prop×AV×aq))(o:Oper)(rest:List (Oper×oh))(K:Env->aq->Prop)(env:Env):Prop:=match r with
 |some (pre,v,H')=>pre/\er P N own ops rest K (bZ env o.dst v) H'
 |none=>False
def anL(P:Program)(N:Nat)(own:List Nat)(ops:Array Oper)(r:Option (Prop×AV×aq))(o:Oper)(rest:List (Oper×oh))(K:Env->aq->Prop)(env:Env)(H:aq):Prop:=match r with
 |some (pre,v,_)=>pre/\er P N own ops rest K (bZ env o.dst v) H
 |none=>False
section
variable(o:Oper)(rest:List (Oper×oh))
theorem arz:er P N own ops [] K env H=K env H:=rfl
theorem anM(c:oh):er P N own ops ((o,c) :: rest) K env H=(tB N o.dst/\vD P N own ops (lB ops o env) c o rest K env H):=by rw[er.eq_def];unfold vD tE;rfl
theorem akZ(c:oh):vD P N own ops (some true) c o rest K env H=tE P N own ops c o rest K env H:=rfl
theorem aiZ(c:oh):vD P N own ops (some false) c o rest K env H=er P N own ops rest K (bZ env o.dst (.dg [])) H:=rfl
theorem auK:tE P N own ops .p o rest K env H=(rT o=true/\abz own o=true/\anL P N own ops (jU P o (ev env) cv) o rest K env H):=rfl
theorem auL:tE P N own ops .q o rest K env H=(bw own o=true/\anJ P N own ops (jU P o (ev env) H) o rest K env H):=rfl
theorem auM:tE P N own ops .b o rest K env H=(bw own o=true/\anL P N own ops (jU P o (ev env) (rU H)) o rest K env H):=rfl
theorem auN:tE P N own ops .w o rest K env H=anK P N own ops (fc P own o (ev env) H) o rest K env:=rfl
theorem auO:tE P N own ops .o o rest K env H=(bw own o=true/\auJ P N own ops (jU P o (ev env) (ou own ops H)) o rest K env H):=rfl
theorem auP:tE P N own ops .s o rest K env H=(ahm own o env/\anK P N own ops (fc P own o (ev env) H) o rest K env):=rfl
theorem auQ:tE P N own ops .f o rest K env H=(bw own o=true/\afm P own ops o (er P N own ops rest K) env H):=rfl
theorem auR:tE P N own ops .t o rest K env H=anI P N own ops (fc P own o (ev env) H) o rest K env H:=rfl
theorem ak0(pre:Prop)(v:AV)(H':aq):anI P N own ops (some (pre,v,H')) o rest K env H=(pre/\er P N own ops rest K (bZ env o.dst v) H'):=rfl
theorem ak1:anI P N own ops none o rest K env H=kf P o (er P N own ops rest K) env H:=rfl
attribute [go_sem] auR ak0 ak1
theorem ak2(pre:Prop)(v:AV)(H':aq):auJ P N own ops (some (pre,v,H')) o rest K env H=(pre/\er P N own ops rest K (bZ env o.dst v) H):=rfl
theorem ak3(pre:Prop)(v:AV)(H':aq):anL P N own ops (some (pre,v,H')) o rest K env H=(pre/\er P N own ops rest K (bZ env o.dst v) H):=rfl
theorem ak4(pre:Prop)(v:AV)(H':aq):anJ P N own ops (some (pre,v,H')) o rest K env H=(pre/\er P N own ops rest K (bZ env o.dst v) H):=rfl
theorem ak5:anJ P N own ops none o rest K env H=ahl P o (er P N own ops rest K) env H:=rfl
theorem ak6(pre:Prop)(v:AV)(H':aq):anK P N own ops (some (pre,v,H')) o rest K env=(pre/\er P N own ops rest K (bZ env o.dst v) H'):=rfl
end
section
variable(d:Option Tmp)(t u:TypeId)(pos:String)(af:Array Edge)(g:Option (Nat×Bool))
def ov(own:List Nat):Option Tmp->Bool
 |some d=>!own.contains d
 |none=>true
theorem arA(k:Nat):ov own (some k) = !own.contains k:=rfl
theorem arB(o:Oper):abz own o=ov own o.dst:=rfl
theorem ak7(e:TypeId)(k:Nat)(x:Operand):ahm own ⟨d,.store e (.tmp k) x,t,pos,af,g⟩ env = ∃off,env k = .ptr k off:=rfl
theorem ax5(own:List Nat)(ops:Array Oper)(H:aq)(i:Nat):ou own ops H i=if mA own ops i=true then none else H i:=rfl
def bxC:Option Chunk->Option Chunk
 |some (.box cs)=>some (.box cs)
 |_=>none
theorem ax6(H:aq)(i:Nat):rU H i=bxC (H i):=by
 unfold rU bxC;cases H i with
 |none=>rfl
 |some c=>cases c<;>rfl
theorem ax7(cs:List AV):bxC (some (.box cs))=some (.box cs):=rfl
theorem ak8(x:Operand):rT ⟨d,.move x,t,pos,af,g⟩=true:=rfl
theorem ak9(x:Operand):rT ⟨d,.load u x,t,pos,af,g⟩=true:=rfl
theorem adf(x:Operand)(k:Nat):rT ⟨d,.fieldAddr u x k,t,pos,af,g⟩=true:=rfl
theorem adg(x y:Operand):rT ⟨d,.indexAddr u x y,t,pos,af,g⟩=true:=rfl
theorem ai0(x:Array (Nat×Operand)):rT ⟨d,.build u x,t,pos,af,g⟩=true:=rfl
theorem ab9(n:Nat)(x:Array (Nat×Operand)):rT ⟨d,.buildSlice u n x,t,pos,af,g⟩=true:=rfl
theorem ala(c:Call):rT ⟨d,.call c,t,pos,af,g⟩=true:=rfl
theorem quiet_move(x:Operand):bw own ⟨d,.move x,t,pos,af,g⟩=ov own d:=by cases d<;>simp only[bw,ov,Bool.and_true]
theorem quiet_assign(x:Operand):bw own ⟨d,.assign x,t,pos,af,g⟩=ov own d:=by cases d<;>simp only[bw,ov,Bool.and_true]
theorem anN(x y z:Operand):bw own ⟨d,.pick x y z,t,pos,af,g⟩=ov own d:=by cases d<;>simp only[bw,ov,Bool.and_true]
theorem anO(x:Operand):bw own ⟨d,.load u x,t,pos,af,g⟩=ov own d:=by cases d<;>simp only[bw,ov,Bool.and_true]
theorem aen(x:Operand)(k:Nat):bw own ⟨d,.fieldAddr u x k,t,pos,af,g⟩=ov own d:=by cases d<;>simp only[bw,ov,Bool.and_true]
theorem aeo(x y:Operand):bw own ⟨d,.indexAddr u x y,t,pos,af,g⟩=ov own d:=by cases d<;>simp only[bw,ov,Bool.and_true]
theorem agH(x:Operand)(k:Nat):bw own ⟨d,.extract x k,t,pos,af,g⟩=ov own d:=by cases d<;>simp only[bw,ov,Bool.and_true]
theorem alb(op:BinOp)(x y:Operand)(v:TypeId):bw own ⟨d,.binOp op u x y v,t,pos,af,g⟩=ov own d:=by cases d<;>simp only[bw,ov,Bool.and_true]
theorem anP(op:UnOp)(x:Operand):bw own ⟨d,.unOp op u x,t,pos,af,g⟩=ov own d:=by cases d<;>simp only[bw,ov,Bool.and_true]
theorem alc(x:Array (Nat×Operand)):bw own ⟨d,.build u x,t,pos,af,g⟩=ov own d:=by cases d<;>simp only[bw,ov,Bool.and_true]
theorem ald(x:Operand)(l h m:Option Operand):bw own ⟨d,.slice u x l h m,t,pos,af,g⟩=ov own d:=by cases d<;>simp only[bw,ov,Bool.and_true]
theorem afo(x:Operand):bw own ⟨d,.nilCheck x,t,pos,af,g⟩=ov own d:=by cases d<;>simp only[bw,ov,Bool.and_true]
theorem ale(f:Operand)(xs:Array Operand)(ts:Array TypeId):bw own ⟨d,.call ⟨.value f,xs,ts⟩,t,pos,af,g⟩=ov own d:=by cases d<;>simp only[bw,ov,Bool.and_true]
theorem arC(xs:Array Operand)(ts:Array TypeId):bw own ⟨d,.call ⟨.builtin .len,xs,ts⟩,t,pos,af,g⟩=ov own d:=by cases d<;>simp only[bw,ov,Bool.and_true]
end
def kr(o:Oper)(ρ:Operand->AV)(H:aq):Option (FuncId×List PV×Bool):=match cB o ρ with
 |some (k,dP)=>(match dO (fW H) dP with
  |some (ps,b)=>some (k,ps,b)
  |none=>none)
 |none=>none
def afp(k:FuncId)(r:Option (List PV×Bool)):Option (FuncId×List PV×Bool):=match r with
 |some (ps,b)=>some (k,ps,b)
 |none=>none
def ai1(f:AV)(dP:List AV)(H:aq):Option (FuncId×List PV×Bool):=match f with
 | .p (.jF (.func k) fs cs)=>afp k (dO (fW H) (fs.map AV.p++dP++cs.map AV.p))
 | .jF (.func k) fs cs=>afp k (dO (fW H) (fs++dP++cs))
 |_=>none
theorem ai2(d:Option Tmp)(t:TypeId)(pos:String)(af:Array Edge)(g:Option (Nat×Bool))(f:Operand)(xs:Array Operand)(ts:Array TypeId)(ρ:Operand->AV) :
  kr ⟨d,.call ⟨.value f,xs,ts⟩,t,pos,af,g⟩ ρ H=ai1 (ρ f) (xs.toList.map ρ) H:=by
 unfold kr cB ai1;simp only[];cases ρ f with
 |p x=>cases x with
  |jF fn fs cs=>cases fn<;>rfl
  |_=>rfl
 |jF fn fs cs=>cases fn<;>rfl
 |_=>rfl
theorem auS(k:FuncId)(fs cs:List PV)(dP:List AV):ai1 (.p (.jF (.func k) fs cs)) dP H=afp k (dO (fW H) (fs.map AV.p++dP++cs.map AV.p)):=rfl
theorem anQ(k:FuncId)(fs cs dP:List AV):ai1 (.jF (.func k) fs cs) dP H=afp k (dO (fW H) (fs++dP++cs)):=rfl
theorem alf(k:FuncId)(ps:List PV)(b:Bool):afp k (some (ps,b))=some (k,ps,b):=rfl
theorem alg{o:Oper}{ρ:Operand->AV}{k:FuncId}{ps:List PV}{b:Bool}{x:PV}(c:aB P k ps λr=>r=x)(he:kr o ρ H=some (k,ps,b))(hb:b=true->x.scalar=true):zm P o ρ H x:=by
 unfold kr at he;cases ha:cB o ρ with
 |none=>rw[ha] at he;cases he
 |some r =>
  obtain⟨k',dP⟩:=r;rw[ha] at he;simp only[] at he;cases hl:dO (fW H) dP with
  |none=>rw[hl] at he;cases he
  |some q=>obtain⟨ps',b'⟩:=q;rw[hl] at he;simp only[cm,gD] at he;obtain⟨rfl,rfl,rfl⟩:=he;exact⟨_,dP,_,_,ha,hl,c,hb⟩
theorem aU{o:Oper}{W:Env->aq->Prop}{k:FuncId}{ps:List PV}{b:Bool}{x:PV}(c:aB P k ps λr=>r=x)(he:kr o (ev env) H=some (k,ps,b))(hb:b=true->x.scalar=true)
  (hW:W (bZ env o.dst (.p x)) H):kf P o W env H:=.inl (.inl ⟨[],aeZ (alg c he hb) hW⟩)
theorem nk{o:Oper}{W:Env->aq->Prop}{k:FuncId}{ps:List PV}{b:Bool}{x:PV}(c:aB P k ps λr=>r=x)(he:kr o (ev env) H=some (k,ps,b))(hb:b=true->x.scalar=true)
  (hW:W (bZ env o.dst (.p x)) H):ahl P o W env H:=⟨x,alg c he hb,hW⟩
theorem rB{o:Oper}{W:Env->aq->Prop}{k:FuncId}{ps:List PV}{b:Bool}{Q:PV->Prop}(c:aB P k ps Q)(he:kr o (ev env) H=some (k,ps,b))
  (hW:∀r,Q r->(b=true->r.scalar=true)/\W (bZ env o.dst (.p r)) H):kf P o W env H:=by
 unfold kr at he;cases ha:cB o (ev env) with
 |none=>rw[ha] at he;cases he
 |some r =>
  obtain⟨k',dP⟩:=r;rw[ha] at he;simp only[] at he;cases hl:dO (fW H) dP with
  |none=>rw[hl] at he;cases he
  |some q=>obtain⟨ps',b'⟩:=q;rw[hl] at he;simp only[cm,gD] at he;obtain⟨rfl,rfl,rfl⟩:=he;exact .inl (.inl ⟨[],_,dP,_,_,Q,ha,hl,c,hW⟩)
theorem auT{o:Oper}{W:Env->aq->Prop}{k:FuncId}{ps:List PV}{x:PV}(c:azX P k ps x)(he:cB o (ev env)=some (k,ps.map AV.p))(hW:W (bZ env o.dst (.p x)) H):kf P o W env H:=.inl (.inr (.inl ⟨k,ps,x,he,c,hW⟩))
theorem cF{b:Bool}{x:PV}(h:x.scalar=true):b=true->x.scalar=true:=λ_=>h
theorem abB{x:PV} : false=true->x.scalar=true:=λh=>by cases h
def nwH(o:Oper)(k:Nat):Bool:=o.dst == some k&&match o.op with
 | .alloc _=>true
 | .box ..=>true
 | .buildSlice ..=>true
 | .makeSlice ..=>true
 |_=>false
theorem arD(k:Nat):mA own (List.toArray []) k=own.contains (2000000+k):=rfl
theorem anR(o:Oper)(l:List Oper)(k:Nat):mA own (List.toArray (o :: l)) k=(nwH o k||mA own (List.toArray l) k):=by unfold mA;simp only[List.any_cons,Bool.or_assoc];try rfl
section
variable(d:Option Tmp)(t u:TypeId)(pos:String)(af:Array Edge)(g:Option (Nat×Bool))
theorem arE(j k:Nat):nwH ⟨some j,.alloc u,t,pos,af,g⟩ k=(j == k):=by unfold nwH;simp only[Bool.and_true];rw[Bool.eq_iff_iff];simp
theorem auU(x:Operand)(k0:Nat):nwH ⟨d,.move x,t,pos,af,g⟩ k0=false:=by unfold nwH;simp only[Bool.and_false]
theorem anS(x:Operand)(k0:Nat):nwH ⟨d,.assign x,t,pos,af,g⟩ k0=false:=by unfold nwH;simp only[Bool.and_false]
theorem auV(x y z:Operand)(k0:Nat):nwH ⟨d,.pick x y z,t,pos,af,g⟩ k0=false:=by unfold nwH;simp only[Bool.and_false]
theorem auW(x:Operand)(k0:Nat):nwH ⟨d,.load u x,t,pos,af,g⟩ k0=false:=by unfold nwH;simp only[Bool.and_false]
theorem agI(x:Operand)(k:Nat)(k0:Nat):nwH ⟨d,.fieldAddr u x k,t,pos,af,g⟩ k0=false:=by unfold nwH;simp only[Bool.and_false]
theorem agJ(x y:Operand)(k0:Nat):nwH ⟨d,.indexAddr u x y,t,pos,af,g⟩ k0=false:=by unfold nwH;simp only[Bool.and_false]
theorem alh(x:Operand)(k:Nat)(k0:Nat):nwH ⟨d,.extract x k,t,pos,af,g⟩ k0=false:=by unfold nwH;simp only[Bool.and_false]
theorem arF(x:Array (Nat×Operand))(k0:Nat):nwH ⟨d,.build u x,t,pos,af,g⟩ k0=false:=by unfold nwH;simp only[Bool.and_false]
theorem afq(n:Nat)(x:Array (Nat×Operand))(j k:Nat):nwH ⟨some j,.buildSlice u n x,t,pos,af,g⟩ k=(j == k):=by unfold nwH;simp only[Bool.and_true];rw[Bool.eq_iff_iff];simp
theorem arG(x:Operand)(l h m:Option Operand)(k0:Nat):nwH ⟨d,.slice u x l h m,t,pos,af,g⟩ k0=false:=by unfold nwH;simp only[Bool.and_false]
theorem ai3(x:Operand)(k0:Nat):nwH ⟨d,.nilCheck x,t,pos,af,g⟩ k0=false:=by unfold nwH;simp only[Bool.and_false]
theorem auX(c:Call)(k0:Nat):nwH ⟨d,.call c,t,pos,af,g⟩ k0=false:=by unfold nwH;simp only[Bool.and_false]
theorem arH(x y:Operand)(k0:Nat):nwH ⟨d,.store u x y,t,pos,af,g⟩ k0=false:=by unfold nwH;simp only[Bool.and_false]
end
attribute [go_sem] arD anR arE auU anS auV auW agI agJ alh arF afq arG ai3 auX arH Bool.false_or Bool.or_false Bool.true_or Bool.or_true auO auP auQ ak2 ak7 anF akT AV.ptr.injEq ax5 ai2 auS anQ alf arz anM akZ aiZ auK auL auM auN ax6 ax7 ak3 ak4 ak5 ak6 arB arA List.contains_cons List.contains_nil ak8 ak9 adf adg ai0 ab9 ala quiet_move quiet_assign anN anO aen aeo agH alb anP alc ald afo ale arC List.zip_cons_cons List.zip_nil_left
end Go.bP
namespace Go.bP
open Go.RowKit
variable{P:Program}{t:TypeId}
theorem auY(d:Int):bnd d none=some d:=rfl
theorem ax8(d:Int)(k:IntKind)(n:Int):bnd d (some (.p (.val (.int k n))))=some n:=rfl
def slS(a b:Option Int)(s:ByteArray):Option (Prop×AV):=match a,b with
 |some l,some h=>some (0<=l/\l<=h/\h<=s.size,.p (.val (.string (s.extract l.toNat h.toNat))))
 |_,_=>none
theorem anT{s:ByteArray}{lo hi:Option AV}(h:ze P t=true):xk P t (.p (.val (.string s))) lo hi none=slS (bnd 0 lo) (bnd s.size hi) s:=by unfold xk slS;simp only[h];all_goals(cases bnd 0 lo<;>cases bnd s.size hi<;>rfl)
theorem auZ(l h:Int)(s:ByteArray):slS (some l) (some h) s=some (0<=l/\l<=h/\h<=s.size,.p (.val (.string (s.extract l.toNat h.toNat)))):=rfl
def slL(e:Option TypeId)(f:TypeId->Option Nat)(a b:Option Int)(es:List (List PV)):Option (Prop×AV):=match e,a,b with
 |some e,some l,some h=>(match f e with
  |some sz=>some ((0<=l/\l<=h/\h<=es.length)/\∀x∈es,x.length=sz,.p (.aE ((es.take h.toNat).drop l.toNat)))
  |none=>none)
 |_,_,_=>none
theorem anU{es:List (List PV)}{lo hi:Option AV} : xk P t (.p (.aE es)) lo hi none=slL (cW P t) (bf P) (bnd 0 lo) (bnd es.length hi) es:=by unfold xk slL;simp only[];all_goals(cases cW P t<;>cases bnd 0 lo<;>cases bnd es.length hi<;>rfl)
theorem au0(e:TypeId)(f:TypeId->Option Nat)(l h:Int)(es:List (List PV)):slL (some e) f (some l) (some h) es=(match f e with
  |some sz=>some ((0<=l/\l<=h/\h<=es.length)/\∀x∈es,x.length=sz,.p (.aE ((es.take h.toNat).drop l.toNat)))
  |none=>none):=rfl
theorem au1(i:Nat):cv i=none:=rfl
attribute [go_sem] au1 auY ax8 anT auZ anU au0 Option.map_none Option.map_some
theorem jh{N:Nat}{own:List Nat}{K:Env->aq->Prop}{env:Env}{H:aq}{l:List Oper}(cs:List oh)(hok:ab8 N own l.toArray (masks l.toArray) cs=true)(hw:er P N own l.toArray (l.zip cs) K env H):vf P N own l.toArray K env H:=arx (masks l.toArray) cs hok hw
theorem VR.ax9{I:Mem}{v:Value}(h:VR I v (.val (.slice none 0 0))):VR I v (.aE []):=by cases h;exact .aE none 0 0 [] [] 1 rfl (by simp) rfl (by simp) (by simp) (.inl rfl) (λ_=>⟨rfl,rfl⟩) (Nat.le_refl _)
theorem VR.aya{I:Mem}{v:Value}(h:VR I v .emp):VR I v (.aE []):=by cases h;rename_i a;exact .aE a 0 0 [] [] 1 rfl (by simp) rfl (by simp) (by simp) (.inl rfl) (λ_=>⟨rfl,rfl⟩) (Nat.le_refl _)
def PLe(p' p:PV):Prop:=∀I v,VR I v p'->VR I v p
theorem PLe.refl(p:PV):PLe p p:=λ_ _ h=>h
theorem PLe.nil:PLe (.val (.slice none 0 0)) (.aE []):=λ_ _ h=>h.ax9
theorem PLe.emp:PLe .emp (.aE []):=λ_ _ h=>h.aya
def rC:List PV->List PV->Prop
 | [],[]=>True
 |a :: r,b :: s=>PLe a b/\rC r s
 |_,_=>False
theorem rC.vrs{I:Mem} : ∀ {ps' ps:List PV},rC ps' ps->∀ {vs:List Value},VRs I vs ps'->VRs I vs ps
 | [],[],_,vs,h=>h
 | [],_ :: _,h,_,_=>h.elim
 |_ :: _,[],h,_,_=>h.elim
 |a :: r,b :: s,h,[],hv=>by have:=hv.1;simp at this
 |a :: r,b :: s,h,v :: vs,hv=>by
  have ih:=rC.vrs (I:=I) h.2 (vs:=vs) ⟨by simpa using hv.1,λj u c hu hc=>hv.2 (j+1) u c hu hc⟩;refine⟨by simpa using ih.1,λj u c hu hc=>?_⟩;cases j with
  |zero=>simp at hu hc;subst hu hc;exact h.1 _ _ (hv.2 0 v a rfl rfl)
  |succ j=>exact ih.2 j u c (by simpa using hu) (by simpa using hc)
theorem aB.args{f:FuncId}{ps ps':List PV}{Q:PV->Prop}(h:aB P f ps Q)(hp:rC ps' ps):aB P f ps' Q:=⟨h.1,λI w vs hI hv=>h.2 I w vs hI (hp.vrs hv)⟩
end Go.bP
namespace Go.bP
open Go.RowKit
variable{P:Program}{own:List Nat}{env:Env}{H:aq}
def yC(l:List Oper):List (Nat×oh)->List (Oper×oh)
 | []=>[]
 |(i,c) :: r=>(match l[i]? with
  |some o=>(o,c) :: yC l r
  |none=>yC l r)
theorem arI(l:List Oper):yC l []=[]:=rfl
theorem abC(l:List Oper)(i:Nat)(c:oh)(r:List (Nat×oh)):yC l ((i,c) :: r)=(match l[i]? with
  |some o=>(o,c) :: yC l r
  |none=>yC l r):=rfl
theorem adh(l:List Oper):∀pc:List (Nat×oh),(yC l pc).map (·.1)=pc.filterMap (λx=>l.toArray[x.1]?)
 | []=>rfl
 |(i,c) :: r=>by
  rw[abC,List.filterMap_cons];cases h:l[i]? with
  |none=>simp[h,adh l r]
  |some o=>simp[h,adh l r]
theorem ahn(l:List Oper):∀pc:List (Nat×oh),(pc.all λx=>decide (x.1<l.length))=true->(yC l pc).map (·.2)=pc.map (·.2)
 | [],_=>rfl
 |(i,c) :: r,h=>by simp only[List.all_cons,Bool.and_eq_true,decide_eq_true_eq] at h;rw[abC,List.getElem?_eq_getElem h.1];simp[ahn l r h.2]
def anV(N:Nat)(own:List Nat)(l:List Oper)(pc:List (Nat×oh)):Bool:=afl own l.toArray (masks l.toArray) pc&&abA N l.toArray&&afn own l.toArray (yC l pc)&&pc.all λx=>decide (x.1<l.length)
theorem apE{N:Nat}{K:Env->aq->Prop}{l:List Oper}(pc:List (Nat×oh))(hok:anV N own l pc=true)(hw:er P N own l.toArray (yC l pc) K env H):vf P N own l.toArray K env H:=by unfold anV at hok;rw[Bool.and_eq_true,Bool.and_eq_true] at hok;exact ary (masks l.toArray) pc hok.1.1 (yC l pc) hok.1.2 (adh l pc) (ahn l pc hok.2) hw
def nG(c:Option Chunk)(r:Option (Prop×AV×aq)):Option (Prop×AV×aq):=match c with
 |some _=>none
 |none=>r
theorem au2(r:Prop×AV×aq)(b:Bool)(y:Option (Prop×AV×aq)):orE (some r) b y=some r:=rfl
theorem aBh(y:Option (Prop×AV×aq)):orE none true y=y:=rfl
theorem arJ(t:TypeId)(n:Nat)(ps:Array (Nat×Operand)):isApp (.buildSlice t n ps)=false:=rfl
theorem anW(t:TypeId)(a b:Operand):isApp (.makeSlice t a b)=false:=rfl
theorem arK(xs:Array Operand)(ts:Array TypeId):isApp (.call ⟨.builtin .append,xs,ts⟩)=true:=rfl
theorem anX(f:Operand)(xs:Array Operand)(ts:Array TypeId):isApp (.call ⟨.value f,xs,ts⟩)=false:=rfl
theorem ayb(r:Option (Prop×AV×aq)):nG none r=r:=rfl
def ayc(P:Program)(r:Option (TypeId×List (List PV)))(d:Nat)(H:aq)(n:Nat)(c:Option (TypeId×List AV)):Option (Prop×AV×aq):=match r with
 |some (e,es)=>(match bf P e with
  |some sz=>some (True,.row d 0,bh H d (.row 0 e sz es))
  |none=>none)
 |none=>(match c with
  |some (_,cs)=>some (True,.bsl d n,bh H d (.box cs))
  |none=>none)
theorem arL(d n:Nat)(e:TypeId)(cs:List AV):ayc P none d H n (some (e,cs))=some (True,.bsl d n,bh H d (.box cs)):=rfl
theorem arM(e:TypeId)(es:List (List PV))(d n:Nat)(c:Option (TypeId×List AV)):ayc P (some (e,es)) d H n c=(match bf P e with
  |some sz=>some (True,.row d 0,bh H d (.row 0 e sz es))
  |none=>none):=rfl
def au3(P:Program)(e:Option TypeId)(a b:AV)(d:Nat)(H:aq):Option (Prop×AV×aq):=match a,b,e with
 | .p (.val (.int _ n)), .p (.val (.int _ m)), some e => (match bf P e, dn P e, u6 P e with
    | some sz, some zs, some sy => if zs.length = sz ∧ 0 < sz ∧ 0 < sy ∧ zs.all (·.oneCell') = true then
      some ((0<=n/\m=n)/\n * sy<=140737488355328,.row d 0,bh H d (.row 0 e sz (List.replicate n.toNat (zs.map PV.val)))) else none
    |_,_,_=>none)
 |_,_,_=>none
theorem anY(k k':IntKind)(n m:Int)(e:TypeId)(d:Nat):au3 P (some e) (.p (.val (.int k n))) (.p (.val (.int k' m))) d H=(match bf P e,dn P e,u6 P e with
    | some sz, some zs, some sy => if zs.length = sz ∧ 0 < sz ∧ 0 < sy ∧ zs.all (·.oneCell') = true then
      some ((0<=n/\m=n)/\n * sy<=140737488355328,.row d 0,bh H d (.row 0 e sz (List.replicate n.toNat (zs.map PV.val)))) else none
    |_,_,_=>none):=rfl
def ayd(a:AV)(ty:Option (TypeId×Nat×Nat))(b:Option (List (List PV)))(d:Nat)(H:aq):Option (Prop×AV×aq):=match a,ty,b with
 | .p (.val (.slice none 0 0)),some (e,sz,sy),some es=>some (es.length * sy<=140737488355328/\∀x∈es,x.length=sz,.row d 0,bh H d (.row 0 e sz es))
 |_,_,_=>none
theorem au4(i v:Nat)(ty:Option (TypeId×Nat×Nat))(b:Option (List (List PV)))(d:Nat):ayd (.row i v) ty b d H=none:=rfl
theorem arN(e:TypeId)(sz sy:Nat)(es:List (List PV))(d:Nat):ayd (.p (.val (.slice none 0 0))) (some (e,sz,sy)) (some es) d H=some (es.length * sy<=140737488355328/\∀x∈es,x.length=sz,.row d 0,bh H d (.row 0 e sz es)):=rfl
section
variable(dd:Option Tmp)(ty:TypeId)(pos:String)(af:Array Edge)(g:Option (Nat×Bool))(ρ:Operand->AV)
theorem aye(t:TypeId)(n:Nat)(ps:Array (Nat×Operand))(d:Nat):exN P ⟨dd,.buildSlice t n ps,ty,pos,af,g⟩ ρ H d=nG (H d) (ayc P (k9 P t n (ps.toList.map λx=>(x.1,ρ x.2))) d H n (vc P t n (ps.toList.map λx=>(x.1,ρ x.2)))):=by
 unfold exN nG ayc;cases H d with
 |some c=>rfl
 |none=>rfl
theorem au5(t:TypeId)(l c:Operand)(d:Nat):exN P ⟨dd,.makeSlice t l c,ty,pos,af,g⟩ ρ H d=nG (H d) (au3 P (cW P t) (ρ l) (ρ c) d H):=by
 unfold exN nG au3;cases H d with
 |some c=>rfl
 |none=>rfl
theorem ayf(t1 t2:TypeId)(a b:Operand)(d:Nat):exN P ⟨dd,.call ⟨.builtin .append,#[a,b],#[t1,t2]⟩,ty,pos,af,g⟩ ρ H d=nG (H d) (ayd (ρ a) (eU P t1 t2) (ve H (ρ b)) d H):=by
 unfold exN nG ayd;cases H d with
 |some c=>rfl
 |none=>rfl
end
def azx(H:aq)(Q:RV->Prop)(a:Option AV):Prop:=match a with
 | some a => (match pK H a with
   |some (r,ids)=>ids.Nodup/\∃r',RLe r r'/\Q r'
   |none=>False)
 |none=>False
theorem au6(rs:List ResultVar)(Q:RV->Prop):az1 P rs Q .ret env H=azx H Q (ni P env H rs):=rfl
def azy(Q : RV → Prop)(x : Option (RV × List Nat)) : Prop := match x with
   |some (r,ids)=>ids.Nodup/\∃r',RLe r r'/\Q r'
   |none=>False
theorem anZ(a:AV)(Q:RV->Prop):azx H Q (some a)=azy Q (pK H a):=rfl
theorem an0(Q:RV->Prop)(r:RV)(ids:List Nat):azy Q (some (r,ids))=(ids.Nodup/\∃r',RLe r r'/\Q r'):=rfl
theorem aAc(x:PV):pK H (.p x)=some (.p x,[]):=by simp only[pK]
def rvR(c : Option Chunk)(id aW : Nat) : Option (RV × List Nat) := match c with
  |some (.row v e sz es)=>if v=aW then some (.row e sz es,[id]) else none
  |some (.shut v es)=>if v=aW then some (.p (.aE es),[]) else none
  |_=>none
theorem au7(id aW:Nat):pK H (.row id aW)=rvR (H id) id aW:=by unfold rvR;simp only[pK];try rfl
theorem ayg(v:Nat)(e:TypeId)(sz:Nat)(es:List (List PV))(id aW:Nat):rvR (some (.row v e sz es)) id aW=if v=aW then some (.row e sz es,[id]) else none:=rfl
theorem au8(v:Nat)(es:List (List PV))(id aW:Nat):rvR (some (.shut v es)) id aW=if v=aW then some (.p (.aE es),[]) else none:=rfl
theorem au9(cs:List AV):pK H (.agg cs)=(match wh H cs with
  |some (rs,ids)=>some (.agg rs,ids)
  |none=>none):=by simp only[pK];try rfl
theorem ava(cs:List AV):pK H (.dg cs)=(match wh H cs with
  |some (rs,ids)=>some (.dg rs,ids)
  |none=>none):=by simp only[pK];try rfl
theorem arO:wh H []=some ([],[]):=by simp only[wh]
theorem an1(a:AV)(r:List AV):wh H (a :: r)=(match pK H a,wh H r with
  |some (x,i),some (xs,j)=>some (x :: xs,i++j)
  |_,_=>none):=by simp only[wh];try rfl
theorem avb(k:Nat)(x:PV):cq k (.p x)=(.p x,k):=by simp only[cq]
theorem an2(k:Nat)(e:TypeId)(sz:Nat)(es:List (List PV)):cq k (.row e sz es)=(.row k 0,k+1):=by simp only[cq]
theorem an3(k:Nat)(rs:List RV):cq k (.agg rs)=(yA (iP k rs).1,(iP k rs).2):=by simp only[cq]
theorem an4(k:Nat)(rs:List RV):cq k (.dg rs)=(.dg (iP k rs).1,(iP k rs).2):=by simp only[cq]
theorem an5(k:Nat):iP k []=([],k):=by simp only[iP]
theorem ali(k:Nat)(r:RV)(rs:List RV):iP k (r :: rs)=((cq k r).1 :: (iP (cq k r).2 rs).1,(iP (cq k r).2 rs).2):=by simp only[iP]
theorem avc(k:Nat)(x:PV):fU k H (.p x)=H:=by simp only[fU]
theorem an6(k:Nat)(e:TypeId)(sz:Nat)(es:List (List PV)):fU k H (.row e sz es)=bh H k (.row 0 e sz es):=by simp only[fU]
theorem an7(k:Nat)(rs:List RV):fU k H (.agg rs)=kF k H rs:=by simp only[fU]
theorem an8(k:Nat)(rs:List RV):fU k H (.dg rs)=kF k H rs:=by simp only[fU]
theorem alj(k:Nat):kF k H []=H:=by simp only[kF]
theorem ai4(k:Nat)(r:RV)(rs:List RV):kF k H (r :: rs)=kF (cq k r).2 (fU k H r) rs:=by simp only[kF]
def oT(H:aq)(id:Nat):Nat->Prop
 |0=>True
 |n+1=>H id=none/\oT H (id+1) n
theorem arP(id:Nat):oT H id 1=(H id=none/\True):=rfl
theorem arQ(id:Nat):oT H id 2=(H id=none/\H (id+1)=none/\True):=rfl
theorem alk(id:Nat):oT H id 3=(H id=none/\H (id+1)=none/\H (id+1+1)=none/\True):=rfl
theorem an9(id:Nat):oT H id 4=(H id=none/\H (id+1)=none/\H (id+1+1)=none/\H (id+1+1+1)=none/\True):=rfl
theorem abD:∀ (n id:Nat),oT H id n->∀i,id<=i->i<id+n->H i=none
 |0,id,_,i,h1,h2=>by omega
 |n+1,id,h,i,h1,h2=>by
  by_cases e:i=id
  ·rw[e];exact h.1
  ·exact abD n (id+1) h.2 i (by omega) (by omega)
section
variable{o:Oper}{W:Env->aq->Prop}{k:FuncId}{ps:List PV}{b:Bool}
theorem ai5(he:kr o (ev env) H=some (k,ps,b)):∃dP,cB o (ev env)=some (k,dP)/\dO (fW H) dP=some (ps,b):=by
 unfold kr at he;cases ha:cB o (ev env) with
 |none=>rw[ha] at he;cases he
 |some r =>
  obtain⟨k',dP⟩:=r;rw[ha] at he;simp only[] at he;cases hl:dO (fW H) dP with
  |none=>rw[hl] at he;cases he
  |some q=>obtain⟨ps',b'⟩:=q;rw[hl] at he;simp only[cm,gD] at he;obtain⟨rfl,rfl,rfl⟩:=he;exact⟨dP,rfl,hl⟩
theorem aho(ids:List Nat)(id:Nat){Q:RV->Prop}(c:aZ P k ps Q)(he:kr o (ev env) (cY ids H)=some (k,ps,b))
  (hW:∀r,Q r->(b=true->r.flat=true)/\oT (cY ids H) id ((cq id r).2-id)/\W (bZ env o.dst (cq id r).1) (fU id (cY ids H) r)):kf P o W env H:=by
 obtain⟨dP,h1,h2⟩:=ai5 he;refine .inl (.inr (.inr ⟨ids,.inl ⟨k,dP,ps,b,Q,id,h1,h2,c,λr hr=>?_⟩⟩));obtain⟨q1,q2,q3⟩:=hW r hr;exact⟨q1,λi hi1 hi2=>abD _ id q2 i hi1 (by omega),q3⟩
theorem afr(id:Nat){r:RV}(c:aZ P k ps λx=>x=r)(he:kr o (ev env) H=some (k,ps,b))(hb:b=true->r.flat=true)
  (hf:oT H id ((cq id r).2-id)) (hW:W (bZ env o.dst (cq id r).1) (fU id H r)):kf P o W env H :=
 aho [] id c he λx hx=>by subst hx;exact⟨hb,hf,hW⟩
theorem aoa(ids:List Nat)(id:Nat){r:RV}(c:aZ P k ps λx=>x=r)(he:kr o (ev env) (cY ids H)=some (k,ps,b))(hb:b=true->r.flat=true)
  (hf:oT (cY ids H) id ((cq id r).2-id)) (hW:W (bZ env o.dst (cq id r).1) (fU id (cY ids H) r)):kf P o W env H :=
 aho ids id c he λx hx=>by subst hx;exact⟨hb,hf,hW⟩
theorem ahp(ids:List Nat){id v:Nat}{e:TypeId}{sz:Nat}{es:List (List PV)}{dP:List AV}{Q:AV->Option Chunk->Prop}(c:pH P k v e sz es ps Q)(ha:cB o (ev env)=some (k,.row id v :: dP))(hH:cY ids H id=some (.row v e sz es))
  (he:dO (fW (akf (cY ids H) id)) dP=some (ps,b))
  (hW:∀a c,Q a c->∃v' e' sz' es' a',c=some (.row v' e' sz' es')/\apw id a=some a'/\(b=true->(es'.all λx=>x.all isVal)=true/\(match a' with | .p x=>x.scalar|_=>true)=true)/\W (bZ env o.dst a') (bh (cY ids H) id (.row v' e' sz' es'))):kf P o W env H :=
 .inl (.inr (.inr ⟨ids,.inr ⟨k,id,v,e,sz,es,dP,ps,b,Q,ha,hH,he,c,hW⟩⟩))
theorem alm{id v:Nat}{e:TypeId}{sz:Nat}{es es':List (List PV)}{dP:List AV}(c:pH P k v e sz es ps λa c=>a = .dg []/\c=some (.row v e sz es'))(ha:cB o (ev env)=some (k,.row id v :: dP))(hH:H id=some (.row v e sz es))
  (he:dO (fW (akf H id)) dP=some (ps,b)) (hb:b=true->(es'.all λx=>x.all isVal)=true) (hW:W (bZ env o.dst (.dg [])) (bh H id (.row v e sz es'))):kf P o W env H :=
 ahp [] c ha hH he λa c ⟨h1,h2⟩=>by subst h1 h2;exact⟨v,e,sz,es',.dg [],rfl,rfl,λh=>⟨hb h,rfl⟩,hW⟩
theorem aln{r:RV} : false=true->r.flat=true:=λh=>by cases h
theorem ahq{b:Bool}{r:RV}(h:r.flat=true):b=true->r.flat=true:=λ_=>h
end
def aob(f:AV)(dP:List AV):Option (FuncId×List AV):=match f with
 | .p (.jF (.func k) fs cs)=>some (k,fs.map AV.p++dP++cs.map AV.p)
 | .jF (.func k) fs cs=>some (k,fs++dP++cs)
 |_=>none
theorem aZ.toL{f:FuncId}{args:List PV}{e:TypeId}{sz:Nat}{es:List (List PV)}(h:aZ P f args λr=>r = .row e sz es):aB P f args λx=>x = .aE es:=h.aAZ.mono λx hx=>by rw[hx];simp only[RV.pv]
def avd:Option AV->AV
 |some a=>a
 |none=>.dead
theorem ave(dP:List AV)(t:Nat):adT dP t=avd dP[t]?:=by unfold adT avd;cases dP[t]?<;>rfl
theorem aoc(a:AV):avd (some a)=a:=rfl
def azz(H:aq)(Q:AV->Option Chunk->Prop)(a:Option AV):Prop:=match a with
 |some a=>Q a (H 1000000)
 |none=>False
theorem alo(rs:List ResultVar)(Q:AV->Option Chunk->Prop):aA6 P rs Q .normal env H=azz H Q (ni P env H rs):=rfl
theorem aod(a:AV)(Q:AV->Option Chunk->Prop):azz H Q (some a)=Q a (H 1000000):=rfl
theorem arR:ni P env H []=some (.dg []):=rfl
theorem afs(d:Option Tmp)(t:TypeId)(pos:String)(af:Array Edge)(g:Option (Nat×Bool))(f:Operand)(xs:Array Operand)(ts:Array TypeId)(ρ:Operand->AV) :
  cB ⟨d,.call ⟨.value f,xs,ts⟩,t,pos,af,g⟩ ρ=aob (ρ f) (xs.toList.map ρ):=by
 unfold cB aob;simp only[];generalize ρ f=v;cases v with
 |p x=>cases x with
  |jF fn fs cs=>cases fn<;>rfl
  |_=>rfl
 |jF fn fs cs=>cases fn<;>rfl
 |_=>rfl
theorem avf(k:FuncId)(fs cs:List PV)(dP:List AV):aob (.p (.jF (.func k) fs cs)) dP=some (k,fs.map AV.p++dP++cs.map AV.p):=rfl
theorem VR.xy{I:Mem}{v:Value}(h:VR I v (.aE [])):∃ao cap,v = .slice ao 0 cap/\VR I v (.val (.slice ao 0 cap)):=by
 cases h with
 |aE ao n cap _ us sz hn=>simp only[List.length_nil] at hn;subst hn;exact⟨ao,cap,rfl,.val _ rfl⟩
theorem aZ.xy{f:FuncId}{rest:List PV}{Q:RV->Prop}(hc:gl P f=true)(h:∀ao cap,aZ P f (.val (.slice ao 0 cap) :: rest) Q):aZ P f (.aE [] :: rest) Q:=by
 refine⟨hc,λI w vs hI hv=>?_⟩;cases vs with
 |nil=>have:=hv.1;simp at this
 |cons v vs =>
  obtain⟨ao,cap,rfl,h1⟩:=(hv.2 0 v _ rfl rfl).xy;refine (h ao cap).2 I w _ hI ⟨by simpa using hv.1,λj u c hu hc=>?_⟩;cases j with
  |zero=>simp at hu hc;subst hu hc;exact h1
  |succ j=>exact hv.2 (j+1) u c hu hc
theorem aB.xy{f:FuncId}{rest:List PV}{Q:PV->Prop}(hc:gl P f=true)(h:∀ao cap,aB P f (.val (.slice ao 0 cap) :: rest) Q):aB P f (.aE [] :: rest) Q:=by
 refine⟨hc,λI w vs hI hv=>?_⟩;cases vs with
 |nil=>have:=hv.1;simp at this
 |cons v vs =>
  obtain⟨ao,cap,rfl,h1⟩:=(hv.2 0 v _ rfl rfl).xy;refine (h ao cap).2 I w _ hI ⟨by simpa using hv.1,λj u c hu hc=>?_⟩;cases j with
  |zero=>simp at hu hc;subst hu hc;exact h1
  |succ j=>exact hv.2 (j+1) u c hu hc
theorem alp:cY [] H=H:=rfl
theorem ai6(id:Nat)(r:List Nat):cY (id :: r) H=cY r (apx H id):=rfl
def azA(H:aq)(id:Nat)(c:Option Chunk):aq:=match c with
 |some (.row v _ _ es)=>bh H id (.shut v es)
 |_=>H
theorem avg(id:Nat):apx H id=azA H id (H id):=rfl
theorem arS(id v:Nat)(e:TypeId)(sz:Nat)(es:List (List PV)):azA H id (some (.row v e sz es))=bh H id (.shut v es):=rfl
def avh:List AV->Option (Prop×AV)
 | .p (.val (.int k n)) :: r=>agy k n r
 |_=>none
section
variable(d:Option Tmp)(ty:TypeId)(pos:String)(af:Array Edge)(g:Option (Nat×Bool))(ρ:Operand->AV)
theorem ayh(xs:Array Operand)(ts:Array TypeId):jU P ⟨d,.call ⟨.builtin .max,xs,ts⟩,ty,pos,af,g⟩ ρ H=up3 (avh (xs.toList.map ρ)) H:=by
 have e:uO P ⟨d,.call ⟨.builtin .max,xs,ts⟩,ty,pos,af,g⟩ ρ=avh (xs.toList.map ρ):=by simp only[uO,tv,avh];generalize xs.toList.map ρ=l;split<;>first|rfl|(split<;>simp_all)
 simp only[jU,e,xp,lZ,xh,yO,vY,xu,up3];all_goals(cases avh (xs.toList.map ρ)<;>rfl)
end
theorem avi(k:IntKind)(n:Int)(r:List AV):avh (.p (.val (.int k n)) :: r)=agy k n r:=rfl
theorem avj(k:IntKind)(n:Int):agy k n []=some (True,.p (.val (.int k n))):=rfl
theorem arT(k k':IntKind)(n m:Int)(r:List AV):agy k n (.p (.val (.int k' m)) :: r)=agy k (max n m) r:=rfl
theorem arU(xs:Array Operand)(ts:Array TypeId):isApp (.call ⟨.builtin .max,xs,ts⟩)=false:=rfl
attribute [go_sem] ayh avi avj arT arU
theorem aoe:pI []=[]:=rfl
theorem aof(k id v:Nat)(r:List (Nat×AV)):pI ((k,.row id v) :: r)=id :: pI r:=rfl
def azB(c:Option Chunk)(id aW:Nat):AV:=match c with
 |some (.shut v es)=>if v=aW then .p (.aE es) else .row id aW
 |_=>.row id aW
theorem arV(id aW:Nat):zq H (.row id aW)=azB (H id) id aW:=rfl
theorem aog(v:Nat)(es:List (List PV))(id aW:Nat):azB (some (.shut v es)) id aW=if v=aW then .p (.aE es) else .row id aW:=rfl
theorem arW(own:List Nat)(d:Option Tmp)(t:TypeId)(pos:String)(af:Array Edge)(g:Option (Nat×Bool))(xs:Array Operand)(ts:Array TypeId):bw own ⟨d,.call ⟨.builtin .max,xs,ts⟩,t,pos,af,g⟩=ov own d:=by cases d<;>simp only[bw,ov,Bool.and_true]
attribute [go_sem] aoe aof arV aog arW
theorem ayi{o:Oper}{W:Env->aq->Prop}(ael:Env)(H2:aq){pre:Prop}{v:AV}{H':aq}(hw:fE env H ael H2)(hx:jU P o (ev ael) H2=some (pre,v,H'))(hp:pre)(hW:W (bZ ael o.dst v) H'):kf P o W env H :=
 .inr (.inl ⟨ael,H2,hw,.inl ⟨pre,v,H',hx,hp,hW⟩⟩)
attribute [go_sem] atB aqq
theorem arX{o:Oper}{W:Env->aq->Prop}{k:FuncId}{ps:List PV}{b:Bool}{id v:Nat}{e:TypeId}{sz:Nat}{es es':List (List PV)}{dP:List AV}(c:pH P k v e sz es ps λa c=>a = .row 1000000 (v+1)/\c=some (.row (v+1) e sz es'))
  (ha:cB o (ev env)=some (k,.row id v :: dP)) (hH:H id=some (.row v e sz es))
  (he:dO (fW (akf H id)) dP=some (ps,b)) (hb:b=true->(es'.all λx=>x.all isVal)=true) (hW:W (bZ env o.dst (.row id (v+1))) (bh H id (.row (v+1) e sz es'))):kf P o W env H :=
 ahp [] c ha hH he λa c ⟨h1,h2⟩=>by subst h1 h2;exact⟨v+1,e,sz,es',.row id (v+1),rfl,rfl,λh=>⟨hb h,rfl⟩,hW⟩
attribute [go_sem] ave aoc alo aod arR afs avf arI abC aqu anb au4 au2 aBh arJ anW arK anX ayb arM arL anY arN aye au5 ayf au6 anZ an0 aAc au7 ayg au8 au9 ava arO an1 avb an2 an3 an4 an5 ali avc an6 an7 an8 alj ai4 arP arQ alk an9 alp ai6 avg arS Nat.add_sub_cancel_left Nat.sub_self
end Go.bP
namespace Go.Proofs.YtldllhbhnpjlcaaGreat.Ty
open Go Go.bP
theorem mixed:Tryz.prog.follows .mixedOrders=true:=by kernel_rfl
@[go_sem] theorem byt3:u6 pw 3=some 8:=by kernel_rfl
@[go_sem] theorem aFQ:bf pw 3=some 1:=by kernel_rfl
@[go_sem] theorem agg3:fP pw 3=some false:=by kernel_rfl
@[go_sem] theorem aFR:dn pw 3=some [.int .i64 0]:=by kernel_rfl
@[go_sem] theorem int3:ag0 pw 3=some .i64:=by kernel_rfl
@[go_sem] theorem und3:(Program.underlying pw 3).isSome=true:=by kernel_rfl
@[go_sem] theorem byt4:u6 pw 4=some 1:=by kernel_rfl
@[go_sem] theorem aFS:bf pw 4=some 1:=by kernel_rfl
@[go_sem] theorem agg4:fP pw 4=some false:=by kernel_rfl
@[go_sem] theorem aFT:dn pw 4=some [.bool false]:=by kernel_rfl
@[go_sem] theorem aFU:afa pw 4=true:=by kernel_rfl
@[go_sem] theorem aFV:bf pw 9=some 1:=by kernel_rfl
@[go_sem] theorem agg9:fP pw 9=some false:=by kernel_rfl
@[go_sem] theorem aFW:dn pw 9=some [.string ⟨#[]⟩]:=by kernel_rfl
@[go_sem] theorem str9:ze pw 9=true:=by kernel_rfl
@[go_sem] theorem aEa:bf pw 30=some 1:=by kernel_rfl
@[go_sem] theorem aFX:fP pw 30=some false:=by kernel_rfl
@[go_sem] theorem aEb:cW pw 30=some 188:=by kernel_rfl
@[go_sem] theorem aEc:isSlice pw 30=true:=by kernel_rfl
@[go_sem] theorem aEd:bf pw 31=some 1:=by kernel_rfl
@[go_sem] theorem aFY:fP pw 31=some false:=by kernel_rfl
@[go_sem] theorem aEe:cW pw 31=some 190:=by kernel_rfl
@[go_sem] theorem aEf:isSlice pw 31=true:=by kernel_rfl
@[go_sem] theorem aEg:bf pw 33=some 2:=by kernel_rfl
@[go_sem] theorem aFZ:fP pw 33=some true:=by kernel_rfl
@[go_sem] theorem aEh:dn pw 33=some [.slice none 0 0,.slice none 0 0]:=by kernel_rfl
@[go_sem] theorem pl33:fu pw 33=some [(0,1),(1,1)]:=by kernel_rfl
@[go_sem] theorem aCD:bt pw 33 0=some (0,1):=by kernel_rfl
@[go_sem] theorem aCE:bt pw 33 1=some (1,1):=by kernel_rfl
@[go_sem] theorem aEi:cW pw 34=some 62:=by kernel_rfl
@[go_sem] theorem aEj:isSlice pw 34=true:=by kernel_rfl
@[go_sem] theorem aEk:bf pw 35=some 1:=by kernel_rfl
@[go_sem] theorem aF0:fP pw 35=some false:=by kernel_rfl
@[go_sem] theorem aEl:dn pw 35=some [.slice none 0 0]:=by kernel_rfl
@[go_sem] theorem aEm:cW pw 35=some 3:=by kernel_rfl
@[go_sem] theorem aEn:isSlice pw 35=true:=by kernel_rfl
@[go_sem] theorem aBi:eU pw 35 35=some (3,1,8):=by kernel_rfl
@[go_sem] theorem aEo:bf pw 36=some 1:=by kernel_rfl
@[go_sem] theorem aF1:fP pw 36=some false:=by kernel_rfl
@[go_sem] theorem aEp:cW pw 36=some 165:=by kernel_rfl
@[go_sem] theorem aEq:isSlice pw 36=true:=by kernel_rfl
@[go_sem] theorem aF2:eU pw 36 36=some (165,3,24):=by kernel_rfl
@[go_sem] theorem aEr:bf pw 38=some 2:=by kernel_rfl
@[go_sem] theorem aF3:fP pw 38=some true:=by kernel_rfl
@[go_sem] theorem aEs:dn pw 38=some [.slice none 0 0,.slice none 0 0]:=by kernel_rfl
@[go_sem] theorem pl38:fu pw 38=some [(0,1),(1,1)]:=by kernel_rfl
@[go_sem] theorem aCF:bt pw 38 0=some (0,1):=by kernel_rfl
@[go_sem] theorem aCG:bt pw 38 1=some (1,1):=by kernel_rfl
@[go_sem] theorem aEt:bf pw 39=some 1:=by kernel_rfl
@[go_sem] theorem aF4:fP pw 39=some false:=by kernel_rfl
@[go_sem] theorem aEu:cW pw 39=some 35:=by kernel_rfl
@[go_sem] theorem aEv:isSlice pw 39=true:=by kernel_rfl
@[go_sem] theorem aF5:eU pw 39 39=some (35,1,24):=by kernel_rfl
@[go_sem] theorem aEw:bf pw 41=some 3:=by kernel_rfl
@[go_sem] theorem aF6:fP pw 41=some true:=by kernel_rfl
@[go_sem] theorem aEx:dn pw 41=some [.slice none 0 0,.slice none 0 0,.slice none 0 0]:=by kernel_rfl
@[go_sem] theorem pl41:fu pw 41=some [(0,2),(2,1)]:=by kernel_rfl
@[go_sem] theorem aCH:bt pw 41 0=some (0,2):=by kernel_rfl
@[go_sem] theorem aCI:bt pw 41 1=some (2,1):=by kernel_rfl
@[go_sem] theorem aEy:bf pw 51=some 1:=by kernel_rfl
@[go_sem] theorem aF7:fP pw 51=some false:=by kernel_rfl
@[go_sem] theorem aEz:cW pw 51=some 215:=by kernel_rfl
@[go_sem] theorem aEA:isSlice pw 51=true:=by kernel_rfl
@[go_sem] theorem aEB:bf pw 52=some 1:=by kernel_rfl
@[go_sem] theorem aF8:fP pw 52=some false:=by kernel_rfl
@[go_sem] theorem aEC:cW pw 52=some 217:=by kernel_rfl
@[go_sem] theorem aED:isSlice pw 52=true:=by kernel_rfl
@[go_sem] theorem aEE:bf pw 54=some 5:=by kernel_rfl
@[go_sem] theorem aF9:fP pw 54=some true:=by kernel_rfl
@[go_sem] theorem aEF:dn pw 54=some [.slice none 0 0,.slice none 0 0,.slice none 0 0,.int .i64 0,.slice none 0 0]:=by kernel_rfl
@[go_sem] theorem pl54:fu pw 54=some [(0,2),(2,1),(3,1),(4,1)]:=by kernel_rfl
@[go_sem] theorem aCJ:bt pw 54 0=some (0,2):=by kernel_rfl
@[go_sem] theorem aCK:bt pw 54 1=some (2,1):=by kernel_rfl
@[go_sem] theorem aCL:bt pw 54 2=some (3,1):=by kernel_rfl
@[go_sem] theorem aCM:bt pw 54 3=some (4,1):=by kernel_rfl
@[go_sem] theorem aEG:bf pw 56=some 2:=by kernel_rfl
@[go_sem] theorem aGa:fP pw 56=some true:=by kernel_rfl
@[go_sem] theorem aEH:dn pw 56=some [.slice none 0 0,.slice none 0 0]:=by kernel_rfl
@[go_sem] theorem pl56:fu pw 56=some [(0,1),(1,1)]:=by kernel_rfl
@[go_sem] theorem aCN:bt pw 56 0=some (0,1):=by kernel_rfl
@[go_sem] theorem aCO:bt pw 56 1=some (1,1):=by kernel_rfl
@[go_sem] theorem aEI:bf pw 57=some 2:=by kernel_rfl
@[go_sem] theorem aGb:fP pw 57=some true:=by kernel_rfl
@[go_sem] theorem aEJ:dn pw 57=some [.slice none 0 0,.slice none 0 0]:=by kernel_rfl
@[go_sem] theorem pl57:fu pw 57=some [(0,1),(1,1)]:=by kernel_rfl
@[go_sem] theorem aCP:bt pw 57 0=some (0,1):=by kernel_rfl
@[go_sem] theorem aCQ:bt pw 57 1=some (1,1):=by kernel_rfl
@[go_sem] theorem aEK:bf pw 58=some 1:=by kernel_rfl
@[go_sem] theorem aGc:fP pw 58=some false:=by kernel_rfl
@[go_sem] theorem aEL:cW pw 58=some 60:=by kernel_rfl
@[go_sem] theorem aEM:isSlice pw 58=true:=by kernel_rfl
@[go_sem] theorem aEN:bf pw 60=some 9:=by kernel_rfl
@[go_sem] theorem aGd:fP pw 60=some true:=by kernel_rfl
@[go_sem] theorem aEO:dn pw 60=some [.int .i64 0,.slice none 0 0,.slice none 0 0,.slice none 0 0,.slice none 0 0,.slice none 0 0,.slice none 0 0,.int .i64 0,.slice none 0 0]:=by kernel_rfl
@[go_sem] theorem pl60:fu pw 60=some [(0,1),(1,1),(2,2),(4,5)]:=by kernel_rfl
@[go_sem] theorem aCR:bt pw 60 0=some (0,1):=by kernel_rfl
@[go_sem] theorem aCS:bt pw 60 1=some (1,1):=by kernel_rfl
@[go_sem] theorem aCT:bt pw 60 2=some (2,2):=by kernel_rfl
@[go_sem] theorem aCU:bt pw 60 3=some (4,5):=by kernel_rfl
@[go_sem] theorem aEP:bf pw 62=some 25:=by kernel_rfl
@[go_sem] theorem aGe:fP pw 62=some true:=by kernel_rfl
@[go_sem] theorem aEQ:dn pw 62=some [.string ⟨#[]⟩,.slice none 0 0,.slice none 0 0,.slice none 0 0,.int .i64 0,.slice none 0 0,.slice none 0 0,.slice none 0 0,.slice none 0 0,.int .i64 0,.slice none 0 0,.slice none 0 0,.slice none 0 0,.slice none 0 0,.slice none 0 0,.bool false,.int .i64 0,.slice none 0 0,.slice none 0 0,.slice none 0 0,.slice none 0 0,.slice none 0 0,.slice none 0 0,.int .i64 0,.slice none 0 0]:=by kernel_rfl
@[go_sem] theorem pl62:fu pw 62=some [(0,1),(1,5),(6,5),(11,2),(13,2),(15,1),(16,9)]:=by kernel_rfl
@[go_sem] theorem aCV:bt pw 62 0=some (0,1):=by kernel_rfl
@[go_sem] theorem aCW:bt pw 62 1=some (1,5):=by kernel_rfl
@[go_sem] theorem aCX:bt pw 62 2=some (6,5):=by kernel_rfl
@[go_sem] theorem aCY:bt pw 62 3=some (11,2):=by kernel_rfl
@[go_sem] theorem aCZ:bt pw 62 4=some (13,2):=by kernel_rfl
@[go_sem] theorem aC0:bt pw 62 5=some (15,1):=by kernel_rfl
@[go_sem] theorem aC1:bt pw 62 6=some (16,9):=by kernel_rfl
@[go_sem] theorem aC2:bt pw 71 0=some (0,25):=by kernel_rfl
@[go_sem] theorem aC3:bt pw 71 1=some (25,25):=by kernel_rfl
@[go_sem] theorem aER:bf pw 73=some 6:=by kernel_rfl
@[go_sem] theorem aGf:fP pw 73=some true:=by kernel_rfl
@[go_sem] theorem aES:dn pw 73=some [.slice none 0 0,.slice none 0 0,.slice none 0 0,.slice none 0 0,.slice none 0 0,.slice none 0 0]:=by kernel_rfl
@[go_sem] theorem pl73:fu pw 73=some [(0,2),(2,2),(4,2)]:=by kernel_rfl
@[go_sem] theorem aC4:bt pw 73 0=some (0,2):=by kernel_rfl
@[go_sem] theorem aC5:bt pw 73 1=some (2,2):=by kernel_rfl
@[go_sem] theorem aC6:bt pw 73 2=some (4,2):=by kernel_rfl
@[go_sem] theorem aET:bf pw 95=some 3:=by kernel_rfl
@[go_sem] theorem aGg:fP pw 95=some true:=by kernel_rfl
@[go_sem] theorem aEU:dn pw 95=some [.slice none 0 0,.slice none 0 0,.slice none 0 0]:=by kernel_rfl
@[go_sem] theorem pl95:fu pw 95=some [(0,2),(2,1)]:=by kernel_rfl
@[go_sem] theorem aC7:bt pw 95 0=some (0,2):=by kernel_rfl
@[go_sem] theorem aC8:bt pw 95 1=some (2,1):=by kernel_rfl
@[go_sem] theorem aEV:bf pw 97=some 38:=by kernel_rfl
@[go_sem] theorem aGh:fP pw 97=some true:=by kernel_rfl
@[go_sem] theorem aEW:dn pw 97=some [.string ⟨#[]⟩,.slice none 0 0,.slice none 0 0,.slice none 0 0,.int .i64 0,.slice none 0 0,.slice none 0 0,.slice none 0 0,.slice none 0 0,.int .i64 0,.slice none 0 0,.slice none 0 0,.slice none 0 0,.slice none 0 0,.slice none 0 0,.bool false,.int .i64 0,.slice none 0 0,.slice none 0 0,.slice none 0 0,.slice none 0 0,.slice none 0 0,.slice none 0 0,.int .i64 0,.slice none 0 0,.slice none 0 0,.slice none 0 0,.slice none 0 0,.slice none 0 0,.slice none 0 0,.slice none 0 0,.slice none 0 0,.slice none 0 0,.slice none 0 0,.slice none 0 0,.slice none 0 0,.slice none 0 0,.slice none 0 0]:=by kernel_rfl
@[go_sem] theorem pl97:fu pw 97=some [(0,25),(25,3),(28,3),(31,3),(34,2),(36,2)]:=by kernel_rfl
@[go_sem] theorem aC9:bt pw 97 0=some (0,25):=by kernel_rfl
@[go_sem] theorem aDa:bt pw 97 1=some (25,3):=by kernel_rfl
@[go_sem] theorem aDb:bt pw 97 2=some (28,3):=by kernel_rfl
@[go_sem] theorem aDc:bt pw 97 3=some (31,3):=by kernel_rfl
@[go_sem] theorem aDd:bt pw 97 4=some (34,2):=by kernel_rfl
@[go_sem] theorem aDe:bt pw 97 5=some (36,2):=by kernel_rfl
@[go_sem] theorem aDf:bf pw 165=some 3:=by kernel_rfl
@[go_sem] theorem aEX:fP pw 165=some true:=by kernel_rfl
@[go_sem] theorem aDg:dn pw 165=some [.int .i64 0,.int .i64 0,.int .i64 0]:=by kernel_rfl
@[go_sem] theorem aGi:fu pw 165=some [(0,1),(1,1),(2,1)]:=by kernel_rfl
@[go_sem] theorem aBj:bt pw 165 0=some (0,1):=by kernel_rfl
@[go_sem] theorem aBk:bt pw 165 1=some (1,1):=by kernel_rfl
@[go_sem] theorem aBl:bt pw 165 2=some (2,1):=by kernel_rfl
@[go_sem] theorem aDh:bf pw 167=some 1:=by kernel_rfl
@[go_sem] theorem aEY:fP pw 167=some false:=by kernel_rfl
@[go_sem] theorem aDi:dn pw 167=some [.slice none 0 0]:=by kernel_rfl
@[go_sem] theorem aDj:cW pw 167=some 4:=by kernel_rfl
@[go_sem] theorem aDk:isSlice pw 167=true:=by kernel_rfl
@[go_sem] theorem aDl:bf pw 183=some 1:=by kernel_rfl
@[go_sem] theorem aEZ:fP pw 183=some false:=by kernel_rfl
@[go_sem] theorem aDm:cW pw 183=some 9:=by kernel_rfl
@[go_sem] theorem aDn:isSlice pw 183=true:=by kernel_rfl
@[go_sem] theorem aE0:eU pw 183 183=some (9,1,16):=by kernel_rfl
@[go_sem] theorem aDo:bf pw 185=some 4:=by kernel_rfl
@[go_sem] theorem aE1:fP pw 185=some true:=by kernel_rfl
@[go_sem] theorem aDp:dn pw 185=some [.string ⟨#[]⟩,.int .i64 0,.int .i64 0,.slice none 0 0]:=by kernel_rfl
@[go_sem] theorem aGj:fu pw 185=some [(0,1),(1,1),(2,1),(3,1)]:=by kernel_rfl
@[go_sem] theorem aBm:bt pw 185 0=some (0,1):=by kernel_rfl
@[go_sem] theorem aBn:bt pw 185 1=some (1,1):=by kernel_rfl
@[go_sem] theorem aBo:bt pw 185 2=some (2,1):=by kernel_rfl
@[go_sem] theorem aBp:bt pw 185 3=some (3,1):=by kernel_rfl
@[go_sem] theorem aDq:bf pw 186=some 1:=by kernel_rfl
@[go_sem] theorem aE2:fP pw 186=some false:=by kernel_rfl
@[go_sem] theorem aDr:cW pw 186=some 185:=by kernel_rfl
@[go_sem] theorem aDs:isSlice pw 186=true:=by kernel_rfl
@[go_sem] theorem aE3:eU pw 186 186=some (185,4,56):=by kernel_rfl
@[go_sem] theorem aDt:bf pw 188=some 4:=by kernel_rfl
@[go_sem] theorem aE4:fP pw 188=some true:=by kernel_rfl
@[go_sem] theorem aDu:dn pw 188=some [.string ⟨#[]⟩,.int .i64 0,.bool false,.slice none 0 0]:=by kernel_rfl
@[go_sem] theorem aGk:fu pw 188=some [(0,1),(1,1),(2,1),(3,1)]:=by kernel_rfl
@[go_sem] theorem aBq:bt pw 188 0=some (0,1):=by kernel_rfl
@[go_sem] theorem aBr:bt pw 188 1=some (1,1):=by kernel_rfl
@[go_sem] theorem aBs:bt pw 188 2=some (2,1):=by kernel_rfl
@[go_sem] theorem aBt:bt pw 188 3=some (3,1):=by kernel_rfl
@[go_sem] theorem aDv:bf pw 190=some 7:=by kernel_rfl
@[go_sem] theorem aE5:fP pw 190=some true:=by kernel_rfl
@[go_sem] theorem aDw:dn pw 190=some [.string ⟨#[]⟩,.int .i64 0,.int .i64 0,.int .i64 0,.int .i64 0,.int .i64 0,.int .i64 0]:=by kernel_rfl
@[go_sem] theorem aGl:fu pw 190=some [(0,1),(1,1),(2,1),(3,1),(4,1),(5,1),(6,1)]:=by kernel_rfl
@[go_sem] theorem aBu:bt pw 190 0=some (0,1):=by kernel_rfl
@[go_sem] theorem aBv:bt pw 190 1=some (1,1):=by kernel_rfl
@[go_sem] theorem aBw:bt pw 190 2=some (2,1):=by kernel_rfl
@[go_sem] theorem aBx:bt pw 190 3=some (3,1):=by kernel_rfl
@[go_sem] theorem aBy:bt pw 190 4=some (4,1):=by kernel_rfl
@[go_sem] theorem aBz:bt pw 190 5=some (5,1):=by kernel_rfl
@[go_sem] theorem aBA:bt pw 190 6=some (6,1):=by kernel_rfl
@[go_sem] theorem aDx:bf pw 213=some 2:=by kernel_rfl
@[go_sem] theorem aE6:fP pw 213=some true:=by kernel_rfl
@[go_sem] theorem aDy:dn pw 213=some [.int .i64 0,.int .i64 0]:=by kernel_rfl
@[go_sem] theorem aBB:bt pw 213 0=some (0,1):=by kernel_rfl
@[go_sem] theorem aBC:bt pw 213 1=some (1,1):=by kernel_rfl
@[go_sem] theorem aDz:bf pw 215=some 4:=by kernel_rfl
@[go_sem] theorem aE7:fP pw 215=some true:=by kernel_rfl
@[go_sem] theorem aDA:dn pw 215=some [.int .i64 0,.int .i64 0,.int .i64 0,.int .i64 0]:=by kernel_rfl
@[go_sem] theorem aBD:bt pw 215 0=some (0,1):=by kernel_rfl
@[go_sem] theorem aBE:bt pw 215 1=some (1,1):=by kernel_rfl
@[go_sem] theorem aBF:bt pw 215 2=some (2,2):=by kernel_rfl
@[go_sem] theorem aDB:bf pw 217=some 5:=by kernel_rfl
@[go_sem] theorem aE8:fP pw 217=some true:=by kernel_rfl
@[go_sem] theorem aDC:dn pw 217=some [.int .i64 0,.int .i64 0,.int .i64 0,.int .i64 0,.int .i64 0]:=by kernel_rfl
@[go_sem] theorem aBG:bt pw 217 0=some (0,1):=by kernel_rfl
@[go_sem] theorem aBH:bt pw 217 1=some (1,2):=by kernel_rfl
@[go_sem] theorem aBI:bt pw 217 2=some (3,2):=by kernel_rfl
@[go_sem] theorem aDD:bf pw 221=some 3:=by kernel_rfl
@[go_sem] theorem aE9:fP pw 221=some true:=by kernel_rfl
@[go_sem] theorem aDE:dn pw 221=some [.int .i64 0,.string ⟨#[]⟩,.int .i64 0]:=by kernel_rfl
@[go_sem] theorem aGm:fu pw 221=some [(0,1),(1,1),(2,1)]:=by kernel_rfl
@[go_sem] theorem aBJ:bt pw 221 0=some (0,1):=by kernel_rfl
@[go_sem] theorem aBK:bt pw 221 1=some (1,1):=by kernel_rfl
@[go_sem] theorem aDF:cW pw 279=some 38:=by kernel_rfl
@[go_sem] theorem aDG:isSlice pw 279=true:=by kernel_rfl
@[go_sem] theorem aFa:ag0 pw 290=some .u64:=by kernel_rfl
@[go_sem] theorem aFb:(Program.underlying pw 290).isSome=true:=by kernel_rfl
@[go_sem] theorem aDH:bf pw 324=some 8:=by kernel_rfl
@[go_sem] theorem aFc:fP pw 324=some true:=by kernel_rfl
@[go_sem] theorem aDI:dn pw 324=some [.slice none 0 0,.slice none 0 0,.slice none 0 0,.slice none 0 0,.slice none 0 0,.slice none 0 0,.slice none 0 0,.slice none 0 0]:=by kernel_rfl
@[go_sem] theorem aGn:fu pw 324=some [(0,2),(2,2),(4,2),(6,2)]:=by kernel_rfl
@[go_sem] theorem aBL:bt pw 324 0=some (0,2):=by kernel_rfl
@[go_sem] theorem aBM:bt pw 324 1=some (2,2):=by kernel_rfl
@[go_sem] theorem aBN:bt pw 324 2=some (4,2):=by kernel_rfl
@[go_sem] theorem aBO:bt pw 324 3=some (6,2):=by kernel_rfl
@[go_sem] theorem aDJ:cW pw 326=some 423:=by kernel_rfl
@[go_sem] theorem aDK:isSlice pw 326=true:=by kernel_rfl
@[go_sem] theorem aFd:eU pw 326 326=some (423,2,16):=by kernel_rfl
@[go_sem] theorem aDL:bf pw 330=some 1:=by kernel_rfl
@[go_sem] theorem aFe:fP pw 330=some false:=by kernel_rfl
@[go_sem] theorem aDM:cW pw 330=some 332:=by kernel_rfl
@[go_sem] theorem aFf:eU pw 330 330=some (332,5,104):=by kernel_rfl
@[go_sem] theorem aDN:bf pw 332=some 5:=by kernel_rfl
@[go_sem] theorem aFg:fP pw 332=some true:=by kernel_rfl
@[go_sem] theorem aDO:dn pw 332=some [.int .i64 0,.slice none 0 0,.slice none 0 0,.slice none 0 0,.slice none 0 0]:=by kernel_rfl
@[go_sem] theorem aGo:fu pw 332=some [(0,1),(1,3),(4,1)]:=by kernel_rfl
@[go_sem] theorem aBP:bt pw 332 2=some (4,1):=by kernel_rfl
@[go_sem] theorem aDP:cW pw 381=some 167:=by kernel_rfl
@[go_sem] theorem aFh:eU pw 381 381=some (167,1,24):=by kernel_rfl
@[go_sem] theorem aDQ:bf pw 386=some 6:=by kernel_rfl
@[go_sem] theorem aFi:fP pw 386=some true:=by kernel_rfl
@[go_sem] theorem aDR:dn pw 386=some [.slice none 0 0,.slice none 0 0,.slice none 0 0,.slice none 0 0,.slice none 0 0,.bool false]:=by kernel_rfl
@[go_sem] theorem aGp:fu pw 386=some [(0,2),(2,3),(5,1)]:=by kernel_rfl
@[go_sem] theorem aDS:bf pw 423=some 2:=by kernel_rfl
@[go_sem] theorem aDT:dn pw 423=some [.int .i64 0,.int .i64 0]:=by kernel_rfl
@[go_sem] theorem aGq:fu pw 423=some [(0,1),(1,1)]:=by kernel_rfl
@[go_sem] theorem aGr:abR pw 165=some [.i,.i,.i]:=by kernel_rfl
end Go.Proofs.YtldllhbhnpjlcaaGreat.Ty
namespace Go.bP
theorem aBQ{α β:Type}(f:α->β)(l:List α)(n:Nat):(l.map f).take n=(l.take n).map f:=(List.map_take ..).symm
theorem aBR{α β:Type}(f:α->β)(l:List α)(n:Nat):(l.map f).drop n=(l.drop n).map f:=(List.map_drop ..).symm
attribute [go_sem] Nat.reduceEqDiff Nat.reduceLT Nat.reduceLeDiff Nat.reduceMul Nat.reduceAdd Nat.reduceBEq Nat.reduceSub Int.reduceToNat reduceIte reduceCtorEq
attribute [go_sem] aBQ aBR Nat.le_refl Nat.not_lt_zero Nat.zero_le Nat.zero_lt_succ decide_true decide_false Bool.not_not exists_eq'
end Go.bP
namespace Go.Proofs.YtldllhbhnpjlcaaGreat
open Go.bP
def encI(n:Int):List PV:=[.val (.int .i64 n)]
def encS(s:ByteArray):List PV:=[.val (.string s)]
def bR(l:List Int):PV:=.aE (l.map encI)
def cz(l:List ByteArray):PV:=.aE (l.map encS)
structure Attr where
 name:ByteArray
 low:Int
 high:Int
 names:List ByteArray
structure qo where
 name:ByteArray
 parent:Int
 abs:Bool
 attrs:List Attr
structure sA where
 name:ByteArray
 src:Int
 dst:Int
 vE:Int
 qY:Int
 aa6:Int
 vF:Int
structure Types where
 nodes:List qo
 ag:List sA
structure aGs where
 nodes:List Int
 ag:List Int
structure Edge where
 type:Int
 src:Int
 dst:Int
structure au where
 nodes:List Int
 ag:List Edge
structure Host where
 graph:au
 values:List (List Int)
structure tF where
 a:Int
 b:Int
instance:Inhabited ByteArray:=⟨.empty⟩
instance:Inhabited Attr:=⟨⟨.empty,0,0,[]⟩⟩
instance:Inhabited qo:=⟨⟨.empty,0,false,[]⟩⟩
instance:Inhabited sA:=⟨⟨.empty,0,0,0,0,0,0⟩⟩
instance:Inhabited Edge:=⟨⟨0,0,0⟩⟩
instance:Inhabited tF:=⟨⟨0,0⟩⟩
def aN(a:Attr):List PV:=[.val (.string a.name),.val (.int .i64 a.low),.val (.int .i64 a.high),cz a.names]
def az(n:qo):List PV:=[.val (.string n.name),.val (.int .i64 n.parent),.val (.bool n.abs),.aE (n.attrs.map aN)]
def aA(e:sA):List PV:=[.val (.string e.name),.val (.int .i64 e.src),.val (.int .i64 e.dst),.val (.int .i64 e.vE),.val (.int .i64 e.qY),.val (.int .i64 e.aa6),.val (.int .i64 e.vF)]
def ay(e:Edge):List PV:=[.val (.int .i64 e.type),.val (.int .i64 e.src),.val (.int .i64 e.dst)]
def sL(p:tF):List PV:=[.val (.int .i64 p.a),.val (.int .i64 p.b)]
def dw(l:List Int):List PV:=[bR l]
def ax(t:Types):PV:=.agg [.aE (t.nodes.map az),.aE (t.ag.map aA)]
def dL(g:au):PV:=.agg [bR g.nodes,.aE (g.ag.map ay)]
def gz(h:Host):PV:=.agg [bR h.graph.nodes,.aE (h.graph.ag.map ay),.aE (h.values.map dw)]
theorem getD_map{α:Type} [Inhabited α](f:α->List PV){l:List α}{n:Nat}(h:n<l.length):(l.map f).getD n []=f (l.getD n default):=by simp[h]
theorem aft{α:Type} [Inhabited α]{l:List α}{n:Nat}(h:n<l.length):l.take (n+1)=l.take n++[l.getD n default]:=by rw[List.take_add_one];simp[h]
theorem bX{k n:Nat}(h:k<n)(hn:n<=4611686018427387904):i64.wrap ((k:Int)+1)=((k+1:Nat):Int):=by rw[IntWalk.i64_in _ (by omega)];omega
section
variable{P:Program}{N:Nat}{own:List Nat}{ops:Array Oper}{K:Env->aq->Prop}{env:Env}{H:aq}
theorem aiS(x:PV):fW H (.p x)=some (x,false):=rfl
theorem qB(ps:List PV):dO (fW H) (ps.map AV.p)=some (ps,false):=by
 induction ps with
 |nil=>rfl
 |cons a r ih=>simp[dO,aiS,ih]
theorem qC(qs bs:List AV):dO (fW H) (qs++bs)=(match dO (fW H) qs,dO (fW H) bs with|some (xs,b),some (ys,c)=>some (xs++ys,b||c)|_,_=>none):=by
 induction qs with
 |nil =>
  simp only[List.nil_append,dO];cases dO (fW H) bs with
  |none=>rfl
  |some r=>obtain⟨ys,c⟩:=r;simp
 |cons a r ih =>
  simp only[List.cons_append,dO,ih];cases fW H a with
  |none=>rfl
  |some q =>
   cases dO (fW H) r with
   |none=>rfl
   |some r1 =>
    cases dO (fW H) bs with
    |none=>rfl
    |some r2=>simp[Bool.or_assoc]
theorem aV{b:Bool}{x y:Code}{K:pJ}(h1:b=true->ab2 P N own (.p (.val (.bool false))) x y K env H)(h2:b=false->ab2 P N own (.p (.val (.bool true))) x y K env H):ab2 P N own (.p (.val (.bool !b))) x y K env H:=by
 cases b
 ·exact h2 rfl
 ·exact h1 rfl
theorem bA{b:Bool}{o:Oper}{rest:List Oper}(h1:b=true->aa4 P N own ops (some true) o rest K env H)(h2:b=false->aa4 P N own ops (some false) o rest K env H):aa4 P N own ops (some b) o rest K env H:=by
 cases b
 ·exact h2 rfl
 ·exact h1 rfl
theorem bJ{b:Bool}{o:Oper}{rest:List Oper}(h1:b=true->aa4 P N own ops (some false) o rest K env H)(h2:b=false->aa4 P N own ops (some true) o rest K env H):aa4 P N own ops (some !b) o rest K env H:=by
 cases b
 ·exact h2 rfl
 ·exact h1 rfl
theorem qZ{b:Bool}{c:oh}{o:Oper}{rest:List (Oper×oh)}(h1:b=true->vD P N own ops (some false) c o rest K env H)(h2:b=false->vD P N own ops (some true) c o rest K env H):vD P N own ops (some !b) c o rest K env H:=by
 cases b
 ·exact h2 rfl
 ·exact h1 rfl
theorem nS{b:Bool}{c:oh}{o:Oper}{rest:List (Oper×oh)}(h1:b=true->vD P N own ops (some true) c o rest K env H)(h2:b=false->vD P N own ops (some false) c o rest K env H):vD P N own ops (some b) c o rest K env H:=by
 cases b
 ·exact h2 rfl
 ·exact h1 rfl
end
end Go.Proofs.YtldllhbhnpjlcaaGreat
namespace Go.bP
theorem aC{P:Program}{f:FuncId}{fn:Func}{c:Code}{args:List PV}{Q:PV->Prop}(own:List Nat)(hf:P.funcs[f]? = some fn)(h:cw P fn.ntmps own c (az0 P fn.results.toList Q) (iD args) cv)(hm:P.follows .mixedOrders=true:=by exact Ty.mixed)(hb:fn.body=some c:=by rfl)(hc:gl P f=true:=by kernel_rfl)(hn:args.length<=fn.ntmps:=by first|decide|simp):aB P f args Q:=akn own hm hf hb hc hn h
theorem bl{P:Program}{f:FuncId}{fn:Func}{c:Code}{args:List PV}{Q:RV->Prop}(own:List Nat)(hf:P.funcs[f]? = some fn)(h:cw P fn.ntmps own c (az1 P fn.results.toList Q) (iD args) cv)(hm:P.follows .mixedOrders=true:=by exact Ty.mixed)(hb:fn.body=some c:=by rfl)(hc:gl P f=true:=by kernel_rfl)(hn:args.length<=fn.ntmps:=by first|decide|simp):aZ P f args Q:=ako own hm hf hb hc hn h
end Go.bP
namespace Go.Proofs.YtldllhbhnpjlcaaGreat
open Go.bP
theorem aa7(n a b:Int):aB pw 166 [.val (.int .i64 n),.val (.int .i64 a),.val (.int .i64 b)] (λr=>r = .val (.bool (decide (a<=n)&&decide (n<=b)))):=by refine aC [] func166 ?_;rw[ntmps166,results166];simp only[go_sem];refine bA (λh=>?_) (λh=>?_)<;>simp only[go_sem,h]
theorem aaE(n m:Int):aB pw 213 [.val (.int .i64 n),.val (.int .i64 m)] (λr=>r = .val (.bool (decide (0<=n)&&decide (n<=m)))):=by refine aC [] func213 ?_;rw[ntmps213,results213];simp only[go_sem];refine bA (λh=>?_) (λh=>?_)<;>simp only[go_sem,h]
def vG(a b:Int):Bool:=(decide (0<=a)&&decide (a<=40))&&(decide (b = -1)||(decide (a<=b)&&decide (b<=40)))
theorem afu(a b:Int):aB pw 247 [.val (.int .i64 a),.val (.int .i64 b)] (λr=>r = .val (.bool (vG a b))):=by
 unfold vG;refine aC [] func247 ?_;rw[ntmps247,results247];simp only[go_sem]
 repeat' first|done|(refine bJ (λh=>?_) (λh=>?_)<;>try simp only[go_sem,h])|(refine bA (λh=>?_) (λh=>?_)<;>try simp only[go_sem,h])|(refine aV (λh=>?_) (λh=>?_)<;>try simp only[go_sem,h])|(refine aJ (λh=>?_) (λh=>?_)<;>try simp only[go_sem,h])
theorem alq(a b:Int):aB pw 202 [.val (.int .i64 a),.val (.int .i64 b)] (λr=>r = .val (.bool (vG a b))):=by
 unfold vG;refine aC [] func202 ?_;rw[ntmps202,results202];simp only[go_sem];refine aU (aa7 a 0 40) (by simp only[go_sem]<;>rfl) (cF rfl) ?_;simp only[go_sem]
 repeat' first|done|(refine bJ (λh=>?_) (λh=>?_)<;>try simp only[go_sem,h])|(refine bA (λh=>?_) (λh=>?_)<;>try simp only[go_sem,h])|(refine aV (λh=>?_) (λh=>?_)<;>try simp only[go_sem,h])|(refine aJ (λh=>?_) (λh=>?_)<;>try simp only[go_sem,h])
 all_goals
  refine aU (aa7 b a 40) (by simp only[go_sem]<;>rfl) (cF rfl) ?_;simp only[go_sem, *]
def pO(n:Int):Bool:=(decide (97<=n)&&decide (n<=122))||(decide (65<=n)&&decide (n<=90))
def vH(n:Int):Bool:=decide (48<=n)&&decide (n<=57)
def aa8(n:Int):Bool:=(pO n||vH n)||decide (n=95)
theorem ahr(n:Int):aB pw 393 [.val (.int .u8 n)] (λr=>r = .val (.bool (pO n))):=by
 unfold pO;refine aC [] func393 ?_;rw[ntmps393,results393];simp only[go_sem]
 repeat' first|done|(refine bJ (λh=>?_) (λh=>?_)<;>try simp only[go_sem,h])|(refine bA (λh=>?_) (λh=>?_)<;>try simp only[go_sem,h])|(refine aV (λh=>?_) (λh=>?_)<;>try simp only[go_sem,h])|(refine aJ (λh=>?_) (λh=>?_)<;>try simp only[go_sem,h])
end Go.Proofs.YtldllhbhnpjlcaaGreat
namespace Go.bP
theorem cJ{e e':Env}{H H':aq}(h1:afb e' e:=by repeat (first|exact auz _|refine axT ?_ (by first|rfl|simp[cD])))(h2:HSub H' H:=by repeat (first|exact aBd _|refine arh ?_ (by first|rfl|simp[bh])))(h3:ac7 e' H':=by repeat (first|exact auA _|refine axU ?_ (by simp[lU,l9,bh])))(h4:pL H' H':=by repeat (first|exact axV _|refine anC ?_|refine akO ?_|refine alr ?_|refine alu ?_|refine anB ?_ (by simp[lU,l9,bh])))(h5:kG H H':=by repeat (first|exact azw _|refine akP (by decide) ?_|refine ag9 (by simp[bh]) ?_)):fE e H e' H':=axW h1 h2 h3 h4 h5
end Go.bP
namespace Go.Proofs.YtldllhbhnpjlcaaGreat
open Go.bP
def idxOf{α:Type}(p:α->Bool)(l:List α):Int:=match l.findIdx? p with
 |some i=>i
 |none=>-1
theorem tG{α:Type} [Inhabited α]{p:α->Bool}{l:List α}{k:Nat}(hk:k<l.length)(h1:∀j,j<k->p (l.getD j default)=false)(h2:p (l.getD k default)=true):idxOf p l=k:=by
 have:l.findIdx? p=some k:=by
  rw[List.findIdx?_eq_some_iff_getElem];refine⟨hk,by simpa[hk] using h2,λj hj=>?_⟩;have:=h1 j hj;have hjl:j<l.length:=by omega
  simpa[hjl] using this
 simp[idxOf,this]
theorem oJ{α:Type} [Inhabited α]{p:α->Bool}{l:List α}(h1:∀j,j<l.length->p (l.getD j default)=false):idxOf p l = -1:=by
 have:l.findIdx? p=none:=by rw[List.findIdx?_eq_none_iff];intro x hx;obtain⟨j,hj,rfl⟩:=List.getElem_of_mem hx;have:=h1 j hj;simpa[hj] using this
 simp[idxOf,this]
theorem qD{α:Type}{p:α->Bool}{l:List α} : decide (0<=idxOf p l)=l.any p:=by
 unfold idxOf;cases h:l.findIdx? p with
 |none =>
  rw[List.findIdx?_eq_none_iff] at h;have:l.any p=false:=by simpa using h
  simp[this]
 |some i=>rw[List.findIdx?_eq_some_iff_getElem] at h;obtain⟨hi,h,_⟩:=h;have:l.any p=true:=List.any_eq_true.2 ⟨_,pz hi,h⟩;simp[this]
def pA(cs:List PV):PV:=.agg cs
def pV(cs:List PV):PV:=cs.getD 0 .emp
theorem aoh(p:Attr->Bool)(l:List Attr)(hl:l.length<=1000000)(k:FuncId)(fs cs:List PV)(hp:∀x∈l,aB pw k (fs++[pA (aN x)]++cs) (λr=>r = .val (.bool (p x)))) :
  aB pw 376 [.aE (l.map aN),.jF (.func k) fs cs] (λr=>r = .val (.int .i64 (idxOf p l))):=by
 refine aC [] func376 ?_;rw[ntmps376,results376];simp only[go_sem];refine ck (σ:=Nat) (λx=>(cD (cD (cD (cD gU 0 (.p (.aE (l.map aN)))) 1 (.p (.jF (.func k) fs cs))) 7 (.p (.val (.int .i64 l.length)))) 8 (.p (.val (.int .i64 x))))) (λx=>cv)
  (λx=>x<=l.length/\∀j,j<x->p (l.getD j default)=false) (λx=>l.length-x) 0 ⟨Nat.zero_le _,λj hj=>absurd hj (Nat.not_lt_zero j)⟩ cJ ?_
 rintro x ⟨hx,hq⟩;simp only[go_sem];refine aJ (λhc=>?_) (λhc=>?_)
 ·have hlt:x<l.length:=by simpa using hc
  simp only[go_sem,getD_map aN hlt,hlt,aN];refine aU (hp (l.getD x default) (by simp[hlt])) (by simp only[go_sem,qC,qB,aN,pA,Bool.or_false,Bool.false_or]<;>rfl) (cF rfl) ?_;simp only[go_sem];refine aJ (λhb=>?_) (λhb=>?_)<;>simp only[go_sem]
  ·exact (tG hlt hq hb).symm
  ·refine cC (x+1) ⟨hlt,λj hj=>?_⟩ (by omega) ?_
   ·rcases Nat.lt_succ_iff_lt_or_eq.1 hj with h|h
    ·exact hq j h
    ·rw[h];exact hb
   ·rw[bX hlt (by omega)];exact cJ
 ·have hge:l.length<=x:=by simpa using hc
  simp only[go_sem,hc];rw[oJ λj hj=>hq j (by omega)]
theorem agK(p:Attr->Bool)(l:List Attr)(hl:l.length<=1000000)(k:FuncId)(fs cs:List PV)(hp:∀x∈l,aB pw k (fs++[pA (aN x)]++cs) (λr=>r = .val (.bool (p x)))) :
  aB pw 322 [.aE (l.map aN),.jF (.func k) fs cs] (λr=>r = .val (.bool (l.any p))):=by
 refine aC [] func322 ?_;rw[ntmps322,results322];simp only[go_sem];refine aU (aoh p l hl k fs cs hp) (by simp only[go_sem]<;>rfl) (cF rfl) ?_;simp only[go_sem];exact qD
theorem aoi(p:qo->Bool)(l:List qo)(hl:l.length<=1000000)(k:FuncId)(fs cs:List PV)(hp:∀x∈l,aB pw k (fs++[pA (az x)]++cs) (λr=>r = .val (.bool (p x)))) :
  aB pw 249 [.aE (l.map az),.jF (.func k) fs cs] (λr=>r = .val (.int .i64 (idxOf p l))):=by
 refine aC [] func249 ?_;rw[ntmps249,results249];simp only[go_sem];refine ck (σ:=Nat) (λx=>(cD (cD (cD (cD gU 0 (.p (.aE (l.map az)))) 1 (.p (.jF (.func k) fs cs))) 7 (.p (.val (.int .i64 l.length)))) 8 (.p (.val (.int .i64 x))))) (λx=>cv)
  (λx=>x<=l.length/\∀j,j<x->p (l.getD j default)=false) (λx=>l.length-x) 0 ⟨Nat.zero_le _,λj hj=>absurd hj (Nat.not_lt_zero j)⟩ cJ ?_
 rintro x ⟨hx,hq⟩;simp only[go_sem];refine aJ (λhc=>?_) (λhc=>?_)
 ·have hlt:x<l.length:=by simpa using hc
  simp only[go_sem,getD_map az hlt,hlt,az];refine aU (hp (l.getD x default) (by simp[hlt])) (by simp only[go_sem,qC,qB,az,pA,Bool.or_false,Bool.false_or]<;>rfl) (cF rfl) ?_;simp only[go_sem];refine aJ (λhb=>?_) (λhb=>?_)<;>simp only[go_sem]
  ·exact (tG hlt hq hb).symm
  ·refine cC (x+1) ⟨hlt,λj hj=>?_⟩ (by omega) ?_
   ·rcases Nat.lt_succ_iff_lt_or_eq.1 hj with h|h
    ·exact hq j h
    ·rw[h];exact hb
   ·rw[bX hlt (by omega)];exact cJ
 ·have hge:l.length<=x:=by simpa using hc
  simp only[go_sem,hc];rw[oJ λj hj=>hq j (by omega)]
theorem agL(p:qo->Bool)(l:List qo)(hl:l.length<=1000000)(k:FuncId)(fs cs:List PV)(hp:∀x∈l,aB pw k (fs++[pA (az x)]++cs) (λr=>r = .val (.bool (p x)))) :
  aB pw 171 [.aE (l.map az),.jF (.func k) fs cs] (λr=>r = .val (.bool (l.any p))):=by
 refine aC [] func171 ?_;rw[ntmps171,results171];simp only[go_sem];refine aU (aoi p l hl k fs cs hp) (by simp only[go_sem]<;>rfl) (cF rfl) ?_;simp only[go_sem];exact qD
theorem alv(p:sA->Bool)(l:List sA)(hl:l.length<=1000000)(k:FuncId)(fs cs:List PV)(hp:∀x∈l,aB pw k (fs++[pA (aA x)]++cs) (λr=>r = .val (.bool (p x)))) :
  aB pw 325 [.aE (l.map aA),.jF (.func k) fs cs] (λr=>r = .val (.int .i64 (idxOf p l))):=by
 refine aC [] func325 ?_;rw[ntmps325,results325];simp only[go_sem];refine ck (σ:=Nat) (λx=>(cD (cD (cD (cD gU 0 (.p (.aE (l.map aA)))) 1 (.p (.jF (.func k) fs cs))) 7 (.p (.val (.int .i64 l.length)))) 8 (.p (.val (.int .i64 x))))) (λx=>cv)
  (λx=>x<=l.length/\∀j,j<x->p (l.getD j default)=false) (λx=>l.length-x) 0 ⟨Nat.zero_le _,λj hj=>absurd hj (Nat.not_lt_zero j)⟩ cJ ?_
 rintro x ⟨hx,hq⟩;simp only[go_sem];refine aJ (λhc=>?_) (λhc=>?_)
 ·have hlt:x<l.length:=by simpa using hc
  simp only[go_sem,getD_map aA hlt,hlt,aA];refine aU (hp (l.getD x default) (by simp[hlt])) (by simp only[go_sem,qC,qB,aA,pA,Bool.or_false,Bool.false_or]<;>rfl) (cF rfl) ?_;simp only[go_sem];refine aJ (λhb=>?_) (λhb=>?_)<;>simp only[go_sem]
  ·exact (tG hlt hq hb).symm
  ·refine cC (x+1) ⟨hlt,λj hj=>?_⟩ (by omega) ?_
   ·rcases Nat.lt_succ_iff_lt_or_eq.1 hj with h|h
    ·exact hq j h
    ·rw[h];exact hb
   ·rw[bX hlt (by omega)];exact cJ
 ·have hge:l.length<=x:=by simpa using hc
  simp only[go_sem,hc];rw[oJ λj hj=>hq j (by omega)]
theorem afv(p:sA->Bool)(l:List sA)(hl:l.length<=1000000)(k:FuncId)(fs cs:List PV)(hp:∀x∈l,aB pw k (fs++[pA (aA x)]++cs) (λr=>r = .val (.bool (p x)))) :
  aB pw 245 [.aE (l.map aA),.jF (.func k) fs cs] (λr=>r = .val (.bool (l.any p))):=by
 refine aC [] func245 ?_;rw[ntmps245,results245];simp only[go_sem];refine aU (alv p l hl k fs cs hp) (by simp only[go_sem]<;>rfl) (cF rfl) ?_;simp only[go_sem];exact qD
theorem aoj(p:Edge->Bool)(l:List Edge)(hl:l.length<=1000000)(k:FuncId)(fs cs:List PV)(hp:∀x∈l,aB pw k (fs++[pA (ay x)]++cs) (λr=>r = .val (.bool (p x)))) :
  aB pw 298 [.aE (l.map ay),.jF (.func k) fs cs] (λr=>r = .val (.int .i64 (idxOf p l))):=by
 refine aC [] func298 ?_;rw[ntmps298,results298];simp only[go_sem];refine ck (σ:=Nat) (λx=>(cD (cD (cD (cD gU 0 (.p (.aE (l.map ay)))) 1 (.p (.jF (.func k) fs cs))) 7 (.p (.val (.int .i64 l.length)))) 8 (.p (.val (.int .i64 x))))) (λx=>cv)
  (λx=>x<=l.length/\∀j,j<x->p (l.getD j default)=false) (λx=>l.length-x) 0 ⟨Nat.zero_le _,λj hj=>absurd hj (Nat.not_lt_zero j)⟩ cJ ?_
 rintro x ⟨hx,hq⟩;simp only[go_sem];refine aJ (λhc=>?_) (λhc=>?_)
 ·have hlt:x<l.length:=by simpa using hc
  simp only[go_sem,getD_map ay hlt,hlt,ay];refine aU (hp (l.getD x default) (by simp[hlt])) (by simp only[go_sem,qC,qB,ay,pA,Bool.or_false,Bool.false_or]<;>rfl) (cF rfl) ?_;simp only[go_sem];refine aJ (λhb=>?_) (λhb=>?_)<;>simp only[go_sem]
  ·exact (tG hlt hq hb).symm
  ·refine cC (x+1) ⟨hlt,λj hj=>?_⟩ (by omega) ?_
   ·rcases Nat.lt_succ_iff_lt_or_eq.1 hj with h|h
    ·exact hq j h
    ·rw[h];exact hb
   ·rw[bX hlt (by omega)];exact cJ
 ·have hge:l.length<=x:=by simpa using hc
  simp only[go_sem,hc];rw[oJ λj hj=>hq j (by omega)]
theorem agM(p:Edge->Bool)(l:List Edge)(hl:l.length<=1000000)(k:FuncId)(fs cs:List PV)(hp:∀x∈l,aB pw k (fs++[pA (ay x)]++cs) (λr=>r = .val (.bool (p x)))) :
  aB pw 214 [.aE (l.map ay),.jF (.func k) fs cs] (λr=>r = .val (.bool (l.any p))):=by
 refine aC [] func214 ?_;rw[ntmps214,results214];simp only[go_sem];refine aU (aoj p l hl k fs cs hp) (by simp only[go_sem]<;>rfl) (cF rfl) ?_;simp only[go_sem];exact qD
theorem arY(p:Int->Bool)(l:List Int)(hl:l.length<=1000000)(k:FuncId)(fs cs:List PV)(hp:∀x∈l,aB pw k (fs++[pV (encI x)]++cs) (λr=>r = .val (.bool (p x)))) :
  aB pw 106 [.aE (l.map encI),.jF (.func k) fs cs] (λr=>r = .val (.int .i64 (idxOf p l))):=by
 refine aC [] func106 ?_;rw[ntmps106,results106];simp only[go_sem];refine ck (σ:=Nat) (λx=>(cD (cD (cD (cD gU 0 (.p (.aE (l.map encI)))) 1 (.p (.jF (.func k) fs cs))) 7 (.p (.val (.int .i64 l.length)))) 8 (.p (.val (.int .i64 x))))) (λx=>cv)
  (λx=>x<=l.length/\∀j,j<x->p (l.getD j default)=false) (λx=>l.length-x) 0 ⟨Nat.zero_le _,λj hj=>absurd hj (Nat.not_lt_zero j)⟩ cJ ?_
 rintro x ⟨hx,hq⟩;simp only[go_sem];refine aJ (λhc=>?_) (λhc=>?_)
 ·have hlt:x<l.length:=by simpa using hc
  simp only[go_sem,getD_map encI hlt,hlt,encI];refine aU (hp (l.getD x default) (by simp[hlt])) (by simp only[go_sem,qC,qB,encI,pV,Bool.or_false,Bool.false_or]<;>rfl) (cF rfl) ?_;simp only[go_sem];refine aJ (λhb=>?_) (λhb=>?_)<;>simp only[go_sem]
  ·exact (tG hlt hq hb).symm
  ·refine cC (x+1) ⟨hlt,λj hj=>?_⟩ (by omega) ?_
   ·rcases Nat.lt_succ_iff_lt_or_eq.1 hj with h|h
    ·exact hq j h
    ·rw[h];exact hb
   ·rw[bX hlt (by omega)];exact cJ
 ·have hge:l.length<=x:=by simpa using hc
  simp only[go_sem,hc];rw[oJ λj hj=>hq j (by omega)]
theorem acd(p:Int->Bool)(l:List Int)(hl:l.length<=1000000)(k:FuncId)(fs cs:List PV)(hp:∀x∈l,aB pw k (fs++[pV (encI x)]++cs) (λr=>r = .val (.bool (p x)))) :
  aB pw 37 [.aE (l.map encI),.jF (.func k) fs cs] (λr=>r = .val (.bool (l.any p))):=by
 refine aC [] func37 ?_;rw[ntmps37,results37];simp only[go_sem];refine aU (arY p l hl k fs cs hp) (by simp only[go_sem]<;>rfl) (cF rfl) ?_;simp only[go_sem];exact qD
theorem aAd(l:List Int)(y:Int)(hl:l.length<=1000000) :
  aB pw 142 [.aE (l.map encI),.val (.int .i64 y)] (λr=>r = .val (.int .i64 (idxOf (λx=>decide (y=x)) l))):=by
 refine aC [] func142 ?_;rw[ntmps142,results142];simp only[go_sem];refine ck (σ:=Nat) (λx=>(cD (cD (cD (cD gU 0 (.p (.aE (l.map encI)))) 1 (.p (.val (.int .i64 y)))) 7 (.p (.val (.int .i64 l.length)))) 8 (.p (.val (.int .i64 x))))) (λx=>cv)
  (λx=>x<=l.length/\∀j,j<x->decide (y=l.getD j default)=false) (λx=>l.length-x) 0 ⟨Nat.zero_le _,λj hj=>absurd hj (Nat.not_lt_zero j)⟩ cJ ?_
 rintro x ⟨hx,hq⟩;simp only[go_sem];refine aJ (λhc=>?_) (λhc=>?_)
 ·have hlt:x<l.length:=by simpa using hc
  simp only[go_sem,getD_map encI hlt,hlt,encI];refine aJ (λhb=>?_) (λhb=>?_)<;>simp only[go_sem]
  ·exact (tG (p:=λx=>decide (y=x)) hlt hq hb).symm
  ·refine cC (x+1) ⟨hlt,λj hj=>?_⟩ (by omega) ?_
   ·rcases Nat.lt_succ_iff_lt_or_eq.1 hj with h|h
    ·exact hq j h
    ·rw[h];exact hb
   ·rw[bX hlt (by omega)];exact cJ
 ·have hge:l.length<=x:=by simpa using hc
  simp only[go_sem,hc];rw[oJ λj hj=>hq j (by omega)]
theorem ayj(l:List Int)(y:Int)(hl:l.length<=1000000) :
  aB pw 139 [.aE (l.map encI),.val (.int .i64 y)] (λr=>r = .val (.bool (l.any λx=>decide (y=x)))):=by
 refine aC [] func139 ?_;rw[ntmps139,results139];simp only[go_sem];refine aU (aAd l y hl) (by simp only[go_sem]<;>rfl) (cF rfl) ?_;simp only[go_sem];exact qD
theorem aAe(l:List ByteArray)(y:ByteArray)(hl:l.length<=1000000) :
  aB pw 411 [.aE (l.map encS),.val (.string y)] (λr=>r = .val (.int .i64 (idxOf (λx=>decide (y=x)) l))):=by
 refine aC [] func411 ?_;rw[ntmps411,results411];simp only[go_sem];refine ck (σ:=Nat) (λx=>(cD (cD (cD (cD gU 0 (.p (.aE (l.map encS)))) 1 (.p (.val (.string y)))) 7 (.p (.val (.int .i64 l.length)))) 8 (.p (.val (.int .i64 x))))) (λx=>cv)
  (λx=>x<=l.length/\∀j,j<x->decide (y=l.getD j default)=false) (λx=>l.length-x) 0 ⟨Nat.zero_le _,λj hj=>absurd hj (Nat.not_lt_zero j)⟩ cJ ?_
 rintro x ⟨hx,hq⟩;simp only[go_sem];refine aJ (λhc=>?_) (λhc=>?_)
 ·have hlt:x<l.length:=by simpa using hc
  simp only[go_sem,getD_map encS hlt,hlt,encS];refine aJ (λhb=>?_) (λhb=>?_)<;>simp only[go_sem]
  ·exact (tG (p:=λx=>decide (y=x)) hlt hq hb).symm
  ·refine cC (x+1) ⟨hlt,λj hj=>?_⟩ (by omega) ?_
   ·rcases Nat.lt_succ_iff_lt_or_eq.1 hj with h|h
    ·exact hq j h
    ·rw[h];exact hb
   ·rw[bX hlt (by omega)];exact cJ
 ·have hge:l.length<=x:=by simpa using hc
  simp only[go_sem,hc];rw[oJ λj hj=>hq j (by omega)]
theorem apF(l:List ByteArray)(y:ByteArray)(hl:l.length<=1000000) :
  aB pw 377 [.aE (l.map encS),.val (.string y)] (λr=>r = .val (.bool (l.any λx=>decide (y=x)))):=by
 refine aC [] func377 ?_;rw[ntmps377,results377];simp only[go_sem];refine aU (aAe l y hl) (by simp only[go_sem]<;>rfl) (cF rfl) ?_;simp only[go_sem];exact qD
theorem afw(n:Int):aB pw 396 [.val (.int .u8 n)] (λr=>r = .val (.bool (vH n))):=by
 unfold vH;refine aC [] func396 ?_;rw[ntmps396,results396];simp only[go_sem]
 repeat' first|done|(refine bJ (λh=>?_) (λh=>?_)<;>try simp only[go_sem,h])|(refine bA (λh=>?_) (λh=>?_)<;>try simp only[go_sem,h])|(refine aV (λh=>?_) (λh=>?_)<;>try simp only[go_sem,h])|(refine aJ (λh=>?_) (λh=>?_)<;>try simp only[go_sem,h])
theorem ayk(n:Int):aB pw 395 [.val (.int .u8 n)] (λr=>r = .val (.bool (aa8 n))):=by
 unfold aa8;refine aC [] func395 ?_;rw[ntmps395,results395];simp only[go_sem];refine aU (ahr n) (by simp only[go_sem]<;>rfl) (cF rfl) ?_;simp only[go_sem];refine bJ (λh=>?_) (λh=>?_)<;>simp only[go_sem,h]
 refine aU (afw n) (by simp only[go_sem]<;>rfl) (cF rfl) ?_;simp only[go_sem];refine bJ (λh=>?_) (λh=>?_)<;>simp only[go_sem,h]
def alw(n:Int):Bool:=(decide (32<=n)&&decide (n<=126)) && !decide (n=34)
theorem avk(n:Int):aB pw 422 [.val (.int .u8 n)] (λr=>r = .val (.bool (alw n))):=by
 unfold alw;refine aC [] func422 ?_;rw[ntmps422,results422];simp only[go_sem]
 repeat' first|done|(refine bJ (λh=>?_) (λh=>?_)<;>try simp only[go_sem,h])|(refine bA (λh=>?_) (λh=>?_)<;>try simp only[go_sem,h])|(refine aV (λh=>?_) (λh=>?_)<;>try simp only[go_sem,h])|(refine aJ (λh=>?_) (λh=>?_)<;>try simp only[go_sem,h])
def aep(p:Int->Bool)(s:ByteArray)(a:Nat):Nat:=((List.range (s.size-a)).takeWhile λj=>p (nX s (a+j))).length
theorem aeq(q:Nat->Bool):∀ (m n:Nat),n<=m->(∀j,j<n->q j=true)->(n=m\/q n=false)->((List.range m).takeWhile q).length=n:=by
 intro m n hn h1 h2;have e:List.range m=List.range n++(List.range (m-n)).map (n + ·):=by rw[<-List.range_add];congr 1;omega
 rw[e,List.takeWhile_append_of_pos (by intro j hj;exact h1 j (List.mem_range.1 hj))];rcases h2 with rfl|h2
 ·simp
 ·cases hm:m-n with
  |zero=>simp
  |succ r=>simp[List.range_succ_eq_map,h2]
theorem aeC{p:Int->Bool}{s:ByteArray}{a n:Nat}(hn:a+n<=s.size)(h1:∀j,j<n->p (nX s (a+j))=true)(h2:a+n=s.size\/p (nX s (a+n))=false):aep p s a=n:=aeq _ _ _ (by omega) h1 (by rcases h2 with h|h;exact .inl (by omega);exact .inr h)
theorem ai7(p:Int->Bool)(s:ByteArray)(a:Nat):aep p s a<=s.size-a:=by unfold aep;exact Nat.le_trans (List.takeWhile_sublist _).length_le (by simp)
theorem aok(p:Int->Bool)(s:ByteArray)(hl:s.size<=1000000)(k:FuncId)(fs cs:List PV)(hp:∀n,aB pw k (fs++[.val (.int .u8 n)]++cs) (λr=>r = .val (.bool (p n)))) :
  aB pw 394 [.val (.string s),.jF (.func k) fs cs] (λr=>r = .val (.int .i64 (aep p s 0))):=by
 refine aC [] func394 ?_;rw[ntmps394,results394];simp only[go_sem];refine ck (σ:=Nat) (λx=>(cD (cD (cD gU 0 (.p (.val (.string s)))) 1 (.p (.jF (.func k) fs cs))) 5 (.p (.val (.int .i64 x))))) (λx=>cv)
  (λx=>x<=s.size/\∀j,j<x->p (nX s (0+j))=true) (λx=>s.size-x) 0 ⟨Nat.zero_le _,λj hj=>absurd hj (Nat.not_lt_zero j)⟩ cJ ?_
 rintro x ⟨hx,hq⟩;simp only[go_sem];refine bA (λhc=>?_) (λhc=>?_)
 ·have hlt:x<s.size:=by simpa using hc
  simp only[go_sem,hlt,hc];refine aU (hp (nX s x)) (by simp only[go_sem,qC,qB,Bool.or_false,Bool.false_or]<;>rfl) (cF rfl) ?_;simp only[go_sem,hc];refine aJ (λhb=>?_) (λhb=>?_)<;>simp only[go_sem]
  ·refine cC (x+1) ⟨hlt,λj hj=>?_⟩ (by omega) ?_
   ·rcases Nat.lt_succ_iff_lt_or_eq.1 hj with h|h
    ·simpa using hq j h
    ·rw[h];exact hb
   ·rw[bX hlt (by omega)];exact cJ
  ·rw[aeC (by omega) hq (.inr (by rw[Nat.zero_add];exact hb))]
 ·have hge:s.size<=x:=by simpa using hc
  simp only[go_sem,hc];rw[aeC (by omega) hq (.inl (by omega))]
theorem arZ(s:ByteArray)(hl:s.size<=1000000)(h0:0<s.size):aB pw 397 [.val (.string s)] (λr=>∃n e:Int,r = .dg [.val (.int .i64 n),.val (.int .i64 e)]):=by
 have h1:((s.extract 1 s.size).size:Int)=s.size-1:=by simp;omega
 have h2:=ai7 alw (s.extract 1 s.size) 0;generalize hm:aep alw (s.extract 1 s.size) 0=m at h2;have h3:i64.wrap (1+(m:Int))=((m+1:Nat):Int):=by rw[IntWalk.i64_in _ (by omega)];omega
 refine aC [] func397 ?_;rw[ntmps397,results397];simp only[go_sem];refine⟨⟨by omega,by omega,by omega⟩,?_⟩;refine aU (aok alw (s.extract 1 s.size) (by simp;omega) _ [] [] avk) (by simp only[go_sem]<;>rfl) (cF rfl) ?_;simp only[go_sem,hm,h3];refine bJ (λh=>?_) (λh=>?_)
 ·simp only[go_sem,h];exact⟨_,_,rfl,rfl⟩
 ·have hne:m+1≠s.size:=by intro e;rw[e] at h;simp at h
  have hlt:m+1<s.size:=by simp at h2;omega
  simp only[go_sem,h,h3,hlt];refine aJ (λhb=>?_) (λhb=>?_)<;>simp only[go_sem]
  ·exact⟨_,_,rfl,rfl⟩
  ·refine aJ (λhb=>?_) (λhb=>?_)<;>simp only[go_sem]
   ·exact⟨_,_,rfl,rfl⟩
   ·exact⟨_,_,rfl,rfl⟩
def aBS:List ByteArray:=[⟨#[45,62]⟩,⟨#[60,61]⟩,⟨#[62,61]⟩,⟨#[61,61]⟩,⟨#[33,61]⟩]
theorem ayl(s:ByteArray):aB pw 398 [.val (.string s)] (λr=>∃b:Bool,r = .val (.bool b)):=by
 refine aC [] func398 ?_;rw[ntmps398,results398];simp only[go_sem];refine bA (λh=>?_) (λh=>?_)
 ·have h2:(2:Int)<=s.size:=bY h;simp only[go_sem,h];refine⟨⟨by decide,by decide,h2⟩,?_⟩;refine aU (apF aBS (s.extract 0 2) (by decide)) (by simp only[go_sem]<;>rfl) (cF rfl) ?_;simp only[go_sem,h];all_goals exact⟨_,rfl⟩
 ·simp only[go_sem,h];all_goals exact⟨_,rfl⟩
theorem aym(s:ByteArray)(n:Int):azX pw 437 [.val (.string s),.val (.int .u8 n)] (.val (.int .i64 (Lib.indexByte s.data.toList n.toNat.toUInt8))):=by
 intro I w us hu;obtain⟨hl,hv⟩:=hu
 match us,hl,hv with
 | [a,b],_,hv=>have ha:=hv 0 a _ rfl rfl;have hb:=hv 1 b _ rfl rfl;cases ha;cases hb;refine⟨_,?_,.val _ rfl⟩;rw[run_callFunc_extern func437 (by kernel_rfl) (by kernel_rfl) (by kernel_rfl) (e:=Extern.BytealgIndexByte.indexByte) (by kernel_rfl)];rw[Lib.run_indexByteString];try rfl
theorem ayn(s:ByteArray)(n:Int):aB pw 423 [.val (.string s),.val (.int .u8 n)] (λr=>∃m:Int,r = .val (.int .i64 m)):=by refine aC [] func423 ?_;rw[ntmps423,results423];simp only[go_sem];refine auT (aym s n) rfl ?_;simp only[go_sem];all_goals exact⟨_,rfl⟩
theorem ayo(s:ByteArray)(n:Int):aB pw 399 [.val (.string s),.val (.int .u8 n)] (λr=>∃m:Int,r = .val (.int .i64 m)):=by refine aC [] func399 ?_;rw[ntmps399,results399];simp only[go_sem];refine rB (ayn s n) (by simp only[go_sem]<;>rfl) ?_;rintro r ⟨m,rfl⟩;refine⟨cF rfl,?_⟩;simp only[go_sem];all_goals exact⟨_,rfl⟩
def kX(s:ByteArray):Bool:=decide (s.size≠0)&&pO (nX s 0)&&decide (aep aa8 s 0=s.size)&&decide (s.size<=20)
theorem aaF(s:ByteArray):kX s=true↔s.size≠0/\pO (nX s 0)=true/\aep aa8 s 0=s.size/\s.size<=20:=by unfold kX;simp only[Bool.and_eq_true,decide_eq_true_eq,and_assoc]
theorem ayp(s:ByteArray)(hl:s.size<=1000000)(h0:0<s.size):aB pw 350 [.val (.string s)] (λr =>
  ∃k n e:Int,r = .dg [.val (.int .i64 k),.val (.int .i64 n),.val (.int .i64 e)]/\((e=0/\k=1/\n=s.size)↔kX s=true)):=by
 have h0':(0:Int)<s.size:=by omega
 refine aC [] func350 ?_;rw[ntmps350,results350];simp only[go_sem];refine⟨⟨by decide,h0'⟩,?_⟩;refine aU (ahr (nX s 0)) (by simp only[go_sem]<;>rfl) (cF rfl) ?_;simp only[go_sem];refine aJ (λhc=>?_) (λhc=>?_)<;>simp only[go_sem]
 ·refine aU (aok aa8 s hl _ [] [] ayk) (by simp only[go_sem]<;>rfl) (cF rfl) ?_;simp only[go_sem];refine aJ (λhd=>?_) (λhd=>?_)<;>simp only[go_sem]
  ·have hd':=bY hd;refine⟨_,_,_,⟨rfl,rfl,rfl⟩,?_⟩;rw[aaF];constructor
   ·rintro⟨h,_⟩;omega
   ·rintro⟨_,_,h1,h2⟩;omega
  ·have hd':=dm hd;refine⟨_,_,_,⟨rfl,rfl,rfl⟩,?_⟩;rw[aaF];constructor
   ·rintro⟨_,_,h⟩;exact⟨by omega,hc,by omega,by omega⟩
   ·rintro⟨_,_,h1,h2⟩;exact⟨rfl,rfl,by omega⟩
 ·have hn:kX s=false:=by simp[kX,hc]
  refine aU (afw (nX s 0)) (by simp only[go_sem]<;>rfl) (cF rfl) ?_;simp only[go_sem];refine aJ (λhd=>?_) (λhd=>?_)<;>simp only[go_sem]
  ·refine aU (aok vH s hl _ [] [] afw) (by simp only[go_sem]<;>rfl) (cF rfl) ?_;simp only[go_sem];refine aJ (λhd=>?_) (λhd=>?_)<;>simp only[go_sem]
   ·exact⟨_,_,_,⟨rfl,rfl,rfl⟩,by simp[hn]⟩
   ·exact⟨_,_,_,⟨rfl,rfl,rfl⟩,by simp[hn]⟩
  ·refine aJ (λhq=>?_) (λhq=>?_)<;>simp only[go_sem]
   ·refine rB (arZ s hl h0) (by simp only[go_sem]<;>rfl) ?_;rintro r ⟨n,e,rfl⟩;refine⟨cF rfl,?_⟩;simp only[go_sem];exact⟨_,_,_,⟨rfl,rfl,rfl⟩,by simp[hn]⟩
   ·refine rB (ayl s) (by simp only[go_sem]<;>rfl) ?_;rintro r ⟨b,rfl⟩;refine⟨cF rfl,?_⟩;simp only[go_sem];refine aJ (λhp=>?_) (λhp=>?_)<;>simp only[go_sem]
    ·exact⟨_,_,_,⟨rfl,rfl,rfl⟩,by simp[hn]⟩
    ·refine rB (ayo _ _) (by simp only[go_sem]<;>rfl) ?_;rintro r ⟨b,rfl⟩;refine⟨cF rfl,?_⟩;simp only[go_sem];refine aJ (λhp=>?_) (λhp=>?_)<;>simp only[go_sem]
     ·exact⟨_,_,_,⟨rfl,rfl,rfl⟩,by simp[hn]⟩
     ·exact⟨_,_,_,⟨rfl,rfl,rfl⟩,by simp[hn]⟩
theorem avl(s:ByteArray)(hl:s.size<=1000000):aB pw 273 [.agg [.val (.int .i64 1),.val (.string s),.val (.int .i64 0)]] (λr=>∃u:ByteArray,r = .dg [.val (.string u),.val (.bool (kX s))]):=by
 refine aC [] func273 ?_;rw[ntmps273,results273];simp only[go_sem,Int.reduceEq];refine aJ (λhc=>?_) (λhc=>?_)<;>simp only[go_sem]
 ·have he:s=⟨#[]⟩:=bY hc;have:kX s=false:=by rw[he];try rfl
  rw[this];exact⟨_,rfl,rfl⟩
 ·have he:s≠⟨#[]⟩:=dm hc;have h0:0<s.size:=by
   rcases Nat.eq_zero_or_pos s.size with h|h
   ·exact absurd (ByteArray.ext (Array.eq_empty_of_size_eq_zero h)) he
   ·exact h
  refine rB (ayp s hl h0) (by simp only[go_sem]<;>rfl) ?_;rintro r ⟨k,n,e,rfl,hiff⟩;refine⟨cF rfl,?_⟩;have hn:kX s=((decide (e=0)&&decide (k=1))&&decide (n=s.size)):=by rw[Bool.eq_iff_iff,<-hiff];simp only[Bool.and_eq_true,decide_eq_true_eq,and_assoc]
  rw[hn];simp only[go_sem];refine bA (λh=>?_) (λh=>?_)<;>simp only[go_sem,h,exists_eq',exists_and_right,and_true,true_and]
  refine bA (λh'=>?_) (λh'=>?_)<;>simp only[go_sem,h,h',exists_eq',exists_and_right,and_true,true_and]
theorem wk(s:ByteArray)(hl:s.size<=1000000):aB pw 193 [.val (.string s)] (λr=>r = .val (.bool (kX s))):=by refine aC [] func193 ?_;rw[ntmps193,results193];simp only[go_sem];refine rB (avl s hl) (by simp only[go_sem]<;>rfl) ?_;rintro r ⟨u,rfl⟩;refine⟨cF rfl,?_⟩;simp only[go_sem]
theorem afx(n:Int):aB pw 288 [.val (.int .u8 n)] (λr=>r = .val (.bool (pO n))):=by
 unfold pO;refine aC [] func288 ?_;rw[ntmps288,results288];simp only[go_sem]
 repeat' first|done|(refine bJ (λh=>?_) (λh=>?_)<;>try simp only[go_sem,h])|(refine bA (λh=>?_) (λh=>?_)<;>try simp only[go_sem,h])|(refine aV (λh=>?_) (λh=>?_)<;>try simp only[go_sem,h])|(refine aJ (λh=>?_) (λh=>?_)<;>try simp only[go_sem,h])
theorem tg(n:Int):aB pw 289 [.val (.int .u8 n)] (λr=>r = .val (.bool (vH n))):=by
 unfold vH;refine aC [] func289 ?_;rw[ntmps289,results289];simp only[go_sem]
 repeat' first|done|(refine bJ (λh=>?_) (λh=>?_)<;>try simp only[go_sem,h])|(refine bA (λh=>?_) (λh=>?_)<;>try simp only[go_sem,h])|(refine aV (λh=>?_) (λh=>?_)<;>try simp only[go_sem,h])|(refine aJ (λh=>?_) (λh=>?_)<;>try simp only[go_sem,h])
def qE(digits:Bool)(n:Int):Bool:=vH n||(!digits&&(pO n||decide (n=95)))
theorem ai8:qE false=aa8:=by funext n;unfold qE aa8;cases vH n<;>cases pO n<;>simp
theorem apG(s:ByteArray)(hl:s.size<=1000000)(b:Bool) :
  aB pw 290 [.val (.string s),.val (.int .i64 0),.val (.bool b)] (λr=>r = .val (.int .i64 (aep (qE b) s 0))):=by
 refine aC [] func290 ?_;rw[ntmps290,results290];simp only[go_sem];refine ck (σ:=Nat) (λx=>(cD (cD (cD (cD gU 0 (.p (.val (.string s)))) 1 (.p (.val (.int .i64 0)))) 2 (.p (.val (.bool b)))) 7 (.p (.val (.int .i64 x))))) (λx=>cv)
  (λx=>x<=s.size/\∀j,j<x->qE b (nX s (0+j))=true) (λx=>s.size-x) 0 ⟨Nat.zero_le _,λj hj=>absurd hj (Nat.not_lt_zero j)⟩ cJ ?_
 rintro x ⟨hx,hq⟩;have hw:i64.wrap (0+(x:Int))=x:=by rw[IntWalk.i64_in _ (by omega)];omega
 simp only[go_sem,hw];refine bA (λhc=>?_) (λhc=>?_)
 ·have hlt:x<s.size:=by simpa using hc
  have fin (h:qE b (nX s x)=false):((x:Nat):Int)=(aep (qE b) s 0:Nat):=by rw[aeC (by omega) hq (.inr (by rw[Nat.zero_add];exact h))]
  simp only[go_sem,hlt,hc,hw];refine aU (tg (nX s x)) (by simp only[go_sem]<;>rfl) (cF rfl) ?_;simp only[go_sem,hc,hw];refine bJ (λh1=>?_) (λh1=>?_)<;>simp only[go_sem,h1,hc,hw]
  ·refine cC (x+1) ⟨hlt,λj hj=>?_⟩ (by omega) ?_
   ·rcases Nat.lt_succ_iff_lt_or_eq.1 hj with h|h
    ·simpa using hq j h
    ·rw[h];simp[qE,h1]
   ·rw[bX hlt (by omega)];exact cJ
  ·refine bJ (λh2=>?_) (λh2=>?_)<;>simp only[go_sem,h1,h2,hc,hw]
   ·subst h2;exact fin (by simp[qE,h1])
   ·subst h2;refine⟨hlt,?_⟩;refine aU (afx (nX s x)) (by simp only[go_sem]<;>rfl) (cF rfl) ?_;simp only[go_sem,hc,hw];refine bJ (λh3=>?_) (λh3=>?_)<;>simp only[go_sem,h1,h3,hc,hw,hlt]
    ·refine cC (x+1) ⟨hlt,λj hj=>?_⟩ (by omega) ?_
     ·rcases Nat.lt_succ_iff_lt_or_eq.1 hj with h|h
      ·simpa using hq j h
      ·rw[h];simp[qE,h3]
     ·rw[bX hlt (by omega)];exact cJ
    ·refine aJ (λh4=>?_) (λh4=>?_)<;>simp only[go_sem]
     ·refine cC (x+1) ⟨hlt,λj hj=>?_⟩ (by omega) ?_
      ·rcases Nat.lt_succ_iff_lt_or_eq.1 hj with h|h
       ·simpa using hq j h
       ·rw[h];simp[qE,h4]
      ·rw[bX hlt (by omega)];exact cJ
     ·exact fin (by simp[qE,h1,h3,h4])
 ·have hge:s.size<=x:=by simpa using hc
  simp only[go_sem,hc];rw[aeC (by omega) hq (.inl (by omega))]
theorem aol(s:ByteArray)(hl:s.size<=1000000):aB pw 291 [.val (.string s),.val (.int .i64 0)] (λr=>∃n:Nat,r = .val (.int .i64 n)/\(n=0\/(2<=n/\n<=s.size))):=by
 refine aC [] func291 ?_;rw[ntmps291,results291];simp only[go_sem];refine ck (σ:=Nat) (λx=>(cD (cD (cD gU 0 (.p (.val (.string s)))) 1 (.p (.val (.int .i64 0)))) 5 (.p (.val (.int .i64 x))))) (λx=>cv)
  (λx=>1<=x/\x<=s.size+1) (λx=>s.size+1-x) 1 ⟨Nat.le_refl _,by omega⟩ cJ ?_
 rintro x ⟨hx1,hx⟩;have hw:i64.wrap (0+(x:Int))=x:=by rw[IntWalk.i64_in _ (by omega)];omega
 simp only[go_sem,hw];refine aJ (λhc=>?_) (λhc=>?_)
 ·have hlt:x<s.size:=by simpa using hc
  simp only[go_sem,hlt,hw];refine aJ (λh1=>?_) (λh1=>?_)<;>simp only[go_sem]
  ·rw[bX hlt (by omega)];exact⟨x+1,rfl,.inr ⟨by omega,by omega⟩⟩
  ·refine bJ (λh2=>?_) (λh2=>?_)<;>simp only[go_sem,h2]
   ·exact⟨0,rfl,.inl rfl⟩
   ·refine aJ (λh3=>?_) (λh3=>?_)<;>simp only[go_sem]
    ·exact⟨0,rfl,.inl rfl⟩
    ·refine cC (x+1) ⟨by omega,by omega⟩ (by omega) ?_;rw[bX hlt (by omega)];exact cJ
 ·simp only[go_sem];exact⟨0,rfl,.inl rfl⟩
def ace:List ByteArray:=[⟨#[45,62]⟩,⟨#[60,61]⟩,⟨#[62,61]⟩,⟨#[61,61]⟩,⟨#[33,61]⟩,⟨#[123]⟩,⟨#[125]⟩,⟨#[40]⟩,⟨#[41]⟩,⟨#[91]⟩,⟨#[93]⟩,⟨#[44]⟩,⟨#[59]⟩,⟨#[58]⟩,⟨#[61]⟩,⟨#[43]⟩,⟨#[45]⟩,⟨#[42]⟩,⟨#[60]⟩,⟨#[62]⟩,⟨#[33]⟩,⟨#[38]⟩,⟨#[124]⟩,⟨#[46]⟩,⟨#[63]⟩]
theorem avm:aB pw 292 [] (λr=>r = .aE (ace.map encS)):=by refine aC [] func292 ?_;rw[ntmps292,results292];simp only[go_sem];try rfl
theorem ai9{n:Int}(h:pO n=true):vH n=false:=by unfold pO vH at *;simp at *;omega
theorem aAf(s:ByteArray)(hl:s.size<=1000000)(h0:0<s.size):aB pw 204 [.val (.string s),.val (.int .i64 0)] (λr =>
  ∃ (k n e:Int) (u:ByteArray),r = .dg [.agg [.val (.int .i64 k),.val (.string u),.val (.int .i64 0)],.val (.int .i64 n),.val (.int .i64 e)]/\((e=0/\k=1/\n=s.size)↔kX s=true)):=by
 have h0':(0:Int)<s.size:=by omega
 refine aC [] func204 ?_;rw[ntmps204,results204];simp only[go_sem];refine⟨⟨by decide,h0'⟩,?_⟩;refine aU (afx (nX s 0)) (by simp only[go_sem]<;>rfl) (cF rfl) ?_;simp only[go_sem];refine bJ (λh1=>?_) (λh1=>?_)<;>simp only[go_sem,h1]
 ·have hd:=ai9 h1;refine aU (tg (nX s 0)) (by simp only[go_sem]<;>rfl) (cF rfl) ?_;simp only[go_sem,hd];refine aU (apG s hl false) (by simp only[go_sem]<;>rfl) (cF rfl) ?_;simp only[go_sem,ai8];refine aU (tg (nX s 0)) (by simp only[go_sem]<;>rfl) (cF rfl) ?_;simp only[go_sem,hd];refine aJ (λh2=>?_) (λh2=>?_)<;>simp only[go_sem]
  ·have hd':=bY h2;refine⟨_,_,_,_,⟨⟨rfl,rfl⟩,rfl,rfl⟩,?_⟩;rw[aaF];constructor
   ·rintro⟨h,_⟩;omega
   ·rintro⟨_,_,h3,h4⟩;omega
  ·have hd':=dm h2;have hr:=ai7 aa8 s 0;have hw:i64.wrap (0+(aep aa8 s 0:Int))=aep aa8 s 0:=by rw[IntWalk.i64_in _ (by omega)];omega
   rw[hw];refine⟨⟨by omega,by omega,by omega⟩,_,_,_,_,⟨⟨rfl,rfl⟩,rfl,rfl⟩,?_⟩;rw[aaF];constructor
   ·rintro⟨_,_,h⟩;exact⟨by omega,h1,by omega,by omega⟩
   ·rintro⟨_,_,h3,h4⟩;exact⟨rfl,rfl,by omega⟩
 ·have hn:kX s=false:=by simp[kX,h1]
  rw[hn];refine aU (tg (nX s 0)) (by simp only[go_sem]<;>rfl) (cF rfl) ?_;simp only[go_sem];refine aJ (λh2=>?_) (λh2=>?_)<;>simp only[go_sem]
  ·refine aU (tg (nX s 0)) (by simp only[go_sem]<;>rfl) (cF rfl) ?_;simp only[go_sem,h2];refine aU (apG s hl true) (by simp only[go_sem]<;>rfl) (cF rfl) ?_;simp only[go_sem];refine aU (tg (nX s 0)) (by simp only[go_sem]<;>rfl) (cF rfl) ?_;simp only[go_sem,h2];have hr:=ai7 (qE true) s 0;generalize aep (qE true) s 0=m at hr;have hw:i64.wrap (0+(m:Int))=m:=by rw[IntWalk.i64_in _ (by omega)];omega
   refine aJ (λh2=>?_) (λh2=>?_)<;>simp only[go_sem,hw]
   ·exact⟨_,_,_,_,⟨⟨rfl,rfl⟩,rfl,rfl⟩,by simp⟩
   ·exact⟨by omega,_,_,_,_,⟨⟨rfl,rfl⟩,rfl,rfl⟩,by simp⟩
  ·refine aJ (λh3=>?_) (λh3=>?_)<;>simp only[go_sem]
   ·refine rB (aol s hl) (by simp only[go_sem]<;>rfl) ?_;rintro r ⟨n,rfl,hr⟩;refine⟨cF rfl,?_⟩;simp only[go_sem];refine aJ (λh4=>?_) (λh4=>?_)<;>simp only[go_sem]
    ·exact⟨_,_,_,_,⟨⟨rfl,rfl⟩,rfl,rfl⟩,by simp⟩
    ·have h5:2<=n/\n<=s.size:=by have:=dm h4;omega
     refine aJ (λh6=>?_) (λh6=>?_)<;>simp only[go_sem]
     ·exact⟨_,_,_,_,⟨⟨rfl,rfl⟩,rfl,rfl⟩,by simp⟩
     ·have w1:i64.wrap (0+1)=1:=by rfl
      have w2:i64.wrap (0+(n:Int))=n:=by rw[IntWalk.i64_in _ (by omega)];omega
      have w3:i64.wrap ((n:Int)-1)=n-1:=by rw[IntWalk.i64_in _ (by omega)]
      simp only[w1,w2,w3];exact⟨by omega,_,_,_,_,⟨⟨rfl,rfl⟩,rfl,rfl⟩,by simp⟩
   ·refine aU (avm) (by simp only[go_sem]<;>rfl) (abB) ?_;simp only[go_sem];refine ck (σ:=Nat) (λx=>(cD (cD (cD (cD (cD gU 0 (.p (.val (.string s)))) 1 (.p (.val (.int .i64 0)))) 4 (.ptr 4 0)) 12 (.p (.aE (ace.map encS)))) 13 (.p (.val (.int .i64 x)))))
     (λx=>(bh cv 4 (.box [.p (.val (.int .i64 0)),.p (.val (.string ⟨#[]⟩)),.p (.val (.int .i64 0))]))) (λx=>x<=ace.length) (λx=>ace.length-x) 0 (Nat.zero_le _) cJ ?_
    rintro x hx;simp only[go_sem];refine aJ (λhc=>?_) (λhc=>?_)
    ·have hlt:x<ace.length:=by simpa using hc
     simp only[go_sem];refine jh [.q,.q,.q,.q,.q,.q,.q,.q,.q,.q,.q,.q,.q,.q,.q,.q,.q,.q,.q,.q,.q,.q,.q,.q,.q,.q,.q] (by kernel_rfl) ?_;simp only[go_sem,getD_map encS hlt,encS,hlt,List.length_map];have hu:(ace.getD x default).size<=2:=by
      have:∀u∈ace,u.size<=2:=by decide
      exact this _ (by simp[hlt])
     have hw:i64.wrap (0+((ace.getD x default).size:Int))=(ace.getD x default).size:=by rw[IntWalk.i64_in _ (by omega)];omega
     refine nS (λh4=>?_) (λh4=>?_)
     ·rw[hw] at h4;have h5:=bY h4;simp only[go_sem,hw,h4,h5,getD_map encS hlt,encS,hlt,List.length_map];refine⟨by omega,?_⟩;refine aJ (λh6=>?_) (λh6=>?_)<;>simp only[go_sem]
      ·refine jh [.p,.p,.p,.p,.p,.p,.p,.p,.p,.p,.w,.q,.q] (by kernel_rfl) ?_;simp only[go_sem,getD_map encS hlt,encS,hlt,List.length_map];exact⟨_,_,_,_,⟨⟨rfl,rfl⟩,rfl,rfl⟩,by simp⟩
      ·rw[bX hlt (by decide)];exact cC (x+1) hlt (by omega) cJ
     ·rw[hw] at h4;simp only[go_sem,h4,hw];rw[bX hlt (by decide)];exact cC (x+1) hlt (by omega) cJ
    ·simp only[go_sem];exact⟨_,_,_,_,⟨⟨rfl,rfl⟩,rfl,rfl⟩,by simp⟩
theorem ayq(s:ByteArray):aB pw 203 [.agg [.val (.int .i64 1),.val (.string s),.val (.int .i64 0)]] (λr=>r = .val (.string s)):=by refine aC [] func203 ?_;rw[ntmps203,results203];simp only[go_sem,Int.reduceEq]
theorem avn(s:ByteArray)(hl:s.size<=1000000):aB pw 124 [.agg [.val (.int .i64 1),.val (.string s),.val (.int .i64 0)]] (λr=>r = .val (.bool (kX s))):=by
 refine aC [] func124 ?_;rw[ntmps124,results124];simp only[go_sem];refine aU (ayq s) (by simp only[go_sem]<;>rfl) (cF rfl) ?_;simp only[go_sem,Int.reduceEq];refine aJ (λhc=>?_) (λhc=>?_)<;>simp only[go_sem]
 ·have he:s=⟨#[]⟩:=bY hc;rw[he];try rfl
 ·have he:s≠⟨#[]⟩:=dm hc;have h0:0<s.size:=by
   rcases Nat.eq_zero_or_pos s.size with h|h
   ·exact absurd (ByteArray.ext (Array.eq_empty_of_size_eq_zero h)) he
   ·exact h
  refine rB (aAf s hl h0) (by simp only[go_sem]<;>rfl) ?_;rintro r ⟨k,n,e,u,rfl,hiff⟩;refine⟨cF rfl,?_⟩;have hn:kX s=((decide (e=0)&&decide (n=s.size))&&decide (k=1)):=by
   rw[Bool.eq_iff_iff,<-hiff];simp only[Bool.and_eq_true,decide_eq_true_eq,and_assoc];constructor
   ·rintro⟨h1,h2,h3⟩;exact⟨h1,h3,h2⟩
   ·rintro⟨h1,h2,h3⟩;exact⟨h1,h3,h2⟩
  rw[hn];simp only[go_sem];refine bA (λh=>?_) (λh=>?_)<;>simp only[go_sem,h]
  refine bA (λh'=>?_) (λh'=>?_)<;>simp only[go_sem,h,h']
theorem tH(s:ByteArray)(hl:s.size<=1000000):aB pw 57 [.val (.string s)] (λr=>r = .val (.bool (kX s))):=by refine aC [] func57 ?_;rw[ntmps57,results57];simp only[go_sem];refine aU (avn s hl) (by simp only[go_sem]<;>rfl) (cF rfl) ?_;simp only[go_sem]
structure jB(t:Types):Prop where
 nodes:t.nodes.length<=20
 ag:t.ag.length<=30
 attrs:∀n∈t.nodes,n.attrs.length<=30
 name:∀n∈t.nodes,n.name.size<=40
 aBT:∀n∈t.nodes,∀a∈n.attrs,a.name.size<=40
 names:∀n∈t.nodes,∀a∈n.attrs,a.names.length<=25
 word:∀n∈t.nodes,∀a∈n.attrs,∀s∈a.names,s.size<=40
 azC:∀e∈t.ag,e.name.size<=40
def qp(t:Types)(n:Nat):Prop:=∀j,j<n->-1<=(t.nodes.getD j default).parent/\(t.nodes.getD j default).parent<j
def rV(t:Types):Nat->Nat->List Attr
 |0,_=>[]
 |k+1,a=>(if 0<=(t.nodes.getD a default).parent then rV t k (t.nodes.getD a default).parent.toNat else [])++(t.nodes.getD a default).attrs
def aR(t:Types)(a:Nat):List Attr:=rV t (a+1) a
theorem adX{t:Types} : ∀ (k k' a:Nat),qp t (a+1)->a<k->a<k'->rV t k a=rV t k' a
 |0,_,_,_,h,_=>by omega
 |_+1,0,_,_,_,h=>by omega
 |k+1,k'+1,a,hp,h,h'=>by
  unfold rV;split
  ·rename_i h0;have hq:=hp a (by omega);rw[adX k k' (t.nodes.getD a default).parent.toNat (λj hj=>hp j (by omega)) (by omega) (by omega)]
  ·rfl
theorem tI{t:Types}{a:Nat}(hp:qp t (a+1)):aR t a=(if 0<=(t.nodes.getD a default).parent then aR t (t.nodes.getD a default).parent.toNat else [])++(t.nodes.getD a default).attrs:=by
 conv=>lhs;unfold aR rV
 split
 ·rename_i h0;have hq:=hp a (by omega);unfold aR;rw[adX a ((t.nodes.getD a default).parent.toNat+1) _ (λj hj=>hp j (by omega)) (by omega) (by omega)]
 ·rfl
theorem gF{α:Type} [Inhabited α]{l:List α}{a:Nat}(ha:a<l.length):l.getD a default∈l:=by
 have:l.getD a default=l[a]:=by simp[ha]
 rw[this];exact pz _
theorem afy{t:Types}(hf:jB t):∀ (k a:Nat),a<t.nodes.length->qp t (a+1)->(rV t k a).length<=k * 30
 |0,_,_,_=>by simp[rV]
 |k+1,a,ha,hp=>by
  unfold rV;have h1:(t.nodes.getD a default).attrs.length<=30:=hf.attrs _ (gF ha);have hq:=hp a (by omega);rw[List.length_append];generalize hlx:(t.nodes.getD a default).attrs.length=lx at h1 ⊢;split
  ·have:=afy hf k (t.nodes.getD a default).parent.toNat (by omega) (λj hj=>hp j (by omega));omega
  ·simp;omega
theorem lV{t:Types}(hf:jB t){a:Nat}(ha:a<t.nodes.length)(hp:qp t (a+1)):(aR t a).length<=600:=by have:=afy hf (a+1) a ha hp;have:=hf.nodes;unfold aR;omega
theorem afz{t:Types}(hf:jB t):∀ (k a:Nat),a<t.nodes.length->qp t (a+1)->∀x∈rV t k a,∃n∈t.nodes,x∈n.attrs
 |0,_,_,_,x,hx=>by simp[rV] at hx
 |k+1,a,ha,hp,x,hx=>by
  unfold rV at hx;have hq:=hp a (by omega);rcases List.mem_append.1 hx with h|h
  ·split at h
   ·exact afz hf k (t.nodes.getD a default).parent.toNat (by omega) (λj hj=>hp j (by omega)) x h
   ·cases h
  ·exact⟨_,gF ha,h⟩
theorem zS(l:List Attr):∀x∈l.map aN,x.length=4:=by intro x hx;obtain⟨a,_,rfl⟩:=List.mem_map.1 hx;rfl
theorem alx(t:Types)(hf:jB t):∀ (a:Nat),a<t.nodes.length->qp t (a+1)->aZ pw 242 [ax t,.val (.int .i64 a)] (λr=>r = .row 185 4 ((aR t a).map aN)):=by
 intro a
 induction a using Nat.strongRecOn with
 |_ a ih =>
  intro ha hp;have hq:=hp a (by omega);have h1:=hf.attrs _ (gF ha);have hlen:=lV hf ha hp;refine bl [25] func242 ?_;rw[ntmps242,results242];simp only[go_sem,ax,getD_map az ha,ha,az];refine aJ (λh0=>?_) (λh0=>?_)<;>simp only[go_sem,getD_map az ha,ha,az]
  ·have h0':=bY h0;obtain⟨q,hqq⟩:∃q:Nat,(t.nodes.getD a default).parent=q:=⟨_,(Int.toNat_of_nonneg h0').symm⟩;have hqa:q<a:=by have:=hq.2;rw[hqq] at this;omega
   rw[hqq];refine afr 17 (ih q hqa (by omega) (λj hj=>hp j (by omega))) (by simp only[go_sem,getD_map az ha,ha,az]<;>rfl) (aln) (by simp only[go_sem,getD_map az ha,ha,az]) ?_;simp only[go_sem,getD_map az ha,ha,az];have e:aR t a=aR t q++(t.nodes.getD a default).attrs:=by rw[tI hp,if_pos h0',hqq];try rfl
   rw[e,List.length_append] at hlen;exact⟨⟨by omega,zS _⟩,by decide,_,.refl _,by rw[e,List.map_append]⟩
  ·have h0':=dm h0;have e:aR t a=(t.nodes.getD a default).attrs:=by rw[tI hp,if_neg h0'];try rfl
   exact⟨⟨by omega,zS _⟩,by decide,_,.refl _,by rw[e]⟩
def kQ(f:Nat->Int)(s n:Nat):Option Nat:=(List.range' s (n-s)).find? λi=>decide (f i≠0)
def qF(f:Nat->Int)(s n:Nat):Int:=match kQ f s n with
 |some k=>f k
 |none=>0
theorem oU{f:Nat->Int}{s n k:Nat}(hs:s<=k)(hk:k<n)(h0:∀j,s<=j->j<k->f j=0)(h1:f k≠0):kQ f s n=some k:=by unfold kQ;rw[List.find?_range'_eq_some];refine⟨by simpa using h1,by simp[List.mem_range'_1];omega,λj hj1 hj2=>by simpa using h0 j hj1 hj2⟩
theorem kH{f:Nat->Int}{s n:Nat}(h0:∀j,s<=j->j<n->f j=0):kQ f s n=none:=by unfold kQ;rw[List.find?_eq_none];intro j hj;rw[List.mem_range'_1] at hj;have:=h0 j hj.1 (by omega);simpa using this
theorem wm{f:Nat->Int}{s n k:Nat}(hs:s<=k)(hk:k<n)(h0:∀j,s<=j->j<k->f j=0)(h1:f k≠0):qF f s n=f k:=by unfold qF;rw[oU hs hk h0 h1]
theorem zT{f:Nat->Int}{s n:Nat}(h0:∀j,s<=j->j<n->f j=0):qF f s n=0:=by unfold qF;rw[kH h0]
theorem tJ{f:Nat->Int}{n k:Nat}(hk:k<n)(h0:∀j,j<k->f j=0)(h1:f k≠0):qF f 0 n=f k:=wm (Nat.zero_le _) hk (λj _=>h0 j) h1
theorem xz{f:Nat->Int}{n:Nat}(h0:∀j,j<n->f j=0):qF f 0 n=0:=zT λj _=>h0 j
theorem all_succ{f:Nat->Int}{x:Nat}(h:∀j,j<x->f j=0)(hx:f x=0):∀j,j<x+1->f j=0:=λj hj=>by
 rcases Nat.lt_succ_iff_lt_or_eq.1 hj with h'|h'
 ·exact h j h'
 ·rw[h'];exact hx
def tK(l:List ByteArray)(i:Nat):Int:=if kX (l.getD i default)=false then 2 else if (l.take i).any (λx=>decide (l.getD i default=x))=true then 5 else 0
def abE(l:List ByteArray):Int:=if 20<l.length then 3 else qF (tK l) 0 l.length
theorem avo(l:List ByteArray)(hl:l.length<=25)(hw:∀s∈l,s.size<=40):aB pw 324 [.aE (l.map encS)] (λr=>r = .val (.int .i64 (abE l))):=by
 unfold abE;refine aC [] func324 ?_;rw[ntmps324,results324];simp only[go_sem];refine aJ (λh0=>?_) (λh0=>?_)<;>simp only[go_sem]
 ·have h0':20<l.length:=by have:=bY h0;omega
  rw[if_pos h0']
 ·have h0':¬ 20<l.length:=by have:=dm h0;omega
  rw[if_neg h0'];refine ck (σ:=Nat) (λx=>(cD (cD (cD (cD gU 0 (.p (.aE (l.map encS)))) 8 (.p (.aE (l.map encS)))) 9 (.p (.val (.int .i64 l.length)))) 10 (.p (.val (.int .i64 x))))) (λx=>cv)
   (λx=>x<=l.length/\∀j,j<x->tK l j=0) (λx=>l.length-x) 0 ⟨Nat.zero_le _,λj hj=>absurd hj (Nat.not_lt_zero j)⟩ cJ ?_
  rintro x ⟨hx,hq⟩;simp only[go_sem];refine aJ (λhc=>?_) (λhc=>?_)
  ·have hlt:x<l.length:=by simpa using hc
   simp only[go_sem,getD_map encS hlt,hlt,encS];refine aU (wk (l.getD x default) (Nat.le_trans (hw _ (gF hlt)) (by decide))) (by simp only[go_sem,getD_map encS hlt,hlt,encS]<;>rfl) (cF rfl) ?_;simp only[go_sem,getD_map encS hlt,hlt,encS];refine aV (λh1=>?_) (λh1=>?_)<;>simp only[go_sem,getD_map encS hlt,hlt,encS]
   ·refine⟨⟨⟨by omega,by omega⟩,λx hx=>by obtain⟨a,_,rfl⟩:=List.mem_map.1 hx;rfl⟩,?_⟩;refine aU (apF (l.take x) (l.getD x default) (by simp;omega)) (by simp only[go_sem,getD_map encS hlt,hlt,encS]<;>rfl) (cF rfl) ?_;simp only[go_sem,getD_map encS hlt,hlt,encS];refine aJ (λh2=>?_) (λh2=>?_)<;>simp only[go_sem,getD_map encS hlt,hlt,encS]
    ·have:tK l x=5:=by unfold tK;rw[if_neg (by rw[h1];decide),if_pos h2]
     rw[tJ hlt hq (by rw[this];decide),this]
    ·have:tK l x=0:=by unfold tK;rw[if_neg (by rw[h1];decide),if_neg (by rw[h2];decide)]
     exact cC (x+1) ⟨hlt,all_succ hq this⟩ (by omega) (by rw[bX hlt (by omega)];exact cJ)
   ·have:tK l x=2:=by unfold tK;rw[if_pos h1]
    rw[tJ hlt hq (by rw[this];decide),this]
  ·have hge:l.length<=x:=by simpa using hc
   simp only[go_sem];rw[xz λj hj=>hq j (by omega)]
theorem agN(x y:Attr):aB pw 323 [.agg (aN y),.fq (aN x) 0] (λr=>r = .val (.bool (decide (y.name=x.name)))):=by refine aC [] func323 ?_;rw[ntmps323,results323];simp only[go_sem,aN,cz]
theorem avp(x y:qo):aB pw 241 [.agg (az y),.fq (az x) 0] (λr=>r = .val (.bool (decide (y.name=x.name)))):=by refine aC [] func241 ?_;rw[ntmps241,results241];simp only[go_sem,az,cz]
theorem avq(x y:sA):aB pw 246 [.agg (aA y),.fq (aA x) 0] (λr=>r = .val (.bool (decide (y.name=x.name)))):=by refine aC [] func246 ?_;rw[ntmps246,results246];simp only[go_sem,aA,cz]
structure aAg(x:Attr):Prop where
 name:x.name.size<=40
 names:x.names.length<=25
 word:∀s∈x.names,s.size<=40
def adi(x:Attr):Bool:=if 0<x.names.length then decide (x.low=0)&&decide (x.high=(x.names.length:Int)-1) else (decide (-1000000<=x.low)&&decide (x.low<=x.high))&&decide (x.high<=1000000)
theorem xA(x:Attr):adi x=true↔(0<x.names.length/\x.low=0/\x.high=(x.names.length:Int)-1)\/(x.names.length=0/\-1000000<=x.low/\x.low<=x.high/\x.high<=1000000):=by
 unfold adi;split
 ·simp only[Bool.and_eq_true,decide_eq_true_eq];omega
 ·simp only[Bool.and_eq_true,decide_eq_true_eq];omega
def yD(x:Attr):Int:=if abE x.names≠0 then abE x.names else if adi x=true then 0 else 6
def tL(before:List Attr)(x:Attr):Int:=if kX x.name=false then 2 else if before.any (λy=>decide (y.name=x.name))=true then 5 else yD x
theorem aja(x:Attr)(before:List Attr)(hx:aAg x)(hb:before.length<=10000):aB pw 243 [.agg (aN x),.aE (before.map aN)] (λr=>r = .val (.int .i64 (tL before x))):=by
 have hn:=hx.names;refine aC [] func243 ?_;rw[ntmps243,results243];simp only[go_sem,aN,cz];refine aU (wk x.name (Nat.le_trans hx.name (by decide))) (by simp only[go_sem,aN,cz]<;>rfl) (cF rfl) ?_;simp only[go_sem,aN,cz];refine aV (λh1=>?_) (λh1=>?_)<;>simp only[go_sem,aN,cz]
 ·refine aU (agK (λy=>decide (y.name=x.name)) before (by omega) _ [] [.fq (aN x) 0] (λy _=>agN x y)) (by simp only[go_sem,aN,cz]<;>rfl) (cF rfl) ?_;simp only[go_sem,aN,cz];refine aJ (λh2=>?_) (λh2=>?_)<;>simp only[go_sem,aN,cz]
  ·unfold tL;rw[if_neg (by rw[h1];decide),if_pos h2]
  ·have e:tL before x=yD x:=by unfold tL;rw[if_neg (by rw[h1];decide),if_neg (by rw[h2];decide)]
   rw[e];refine aU (avo x.names hx.names hx.word) (by simp only[go_sem,aN,cz]<;>rfl) (cF rfl) ?_;simp only[go_sem,aN,cz];refine aV (λh3=>?_) (λh3=>?_)<;>simp only[go_sem,aN,cz]
   ·have h3':=bY h3;have e2:yD x=if adi x=true then 0 else 6:=by unfold yD;rw[if_neg (by rw[h3'];decide)]
    rw[e2];have hw:i64.wrap ((x.names.length:Int)-1)=(x.names.length:Int)-1:=IntWalk.i64_in _ (by omega)
    repeat' first|done|(refine bJ (λh=>?_) (λh=>?_)<;>try simp only[go_sem,h,hw,aN,cz])|(refine bA (λh=>?_) (λh=>?_)<;>try simp only[go_sem,h,hw,aN,cz])|(refine aV (λh=>?_) (λh=>?_)<;>try simp only[go_sem,h,hw,aN,cz])|(refine aJ (λh=>?_) (λh=>?_)<;>try simp only[go_sem,h,hw,aN,cz])
    all_goals
     simp only[Bool.not_eq_true',Bool.not_eq_false',decide_eq_true_eq,decide_eq_false_iff_not,Decidable.not_not] at *;split<;>rename_i hr<;>rw[xA] at hr<;>omega
   ·have h3':=dm h3;unfold yD;rw[if_pos h3']
 ·unfold tL;rw[if_pos h1]
theorem jB.ayr{t:Types}(hf:jB t){a:Nat}(ha:a<t.nodes.length)(hp:qp t (a+1)){x:Attr}(hx:x∈aR t a):aAg x:=by obtain⟨n,hn,h⟩:=afz hf _ a ha hp x hx;exact⟨hf.aBT n hn x h,hf.names n hn x h,hf.word n hn x h⟩
def lW(t:Types)(i:Nat):Int :=
 if kX (t.nodes.getD i default).name=false then 2
 else if (t.nodes.take i).any (λy=>decide (y.name=(t.nodes.getD i default).name))=true then 5
 else if ¬ (-1<=(t.nodes.getD i default).parent/\(t.nodes.getD i default).parent<i) then 6
 else if 4<(t.nodes.getD i default).attrs.length then 3
 else if 8<(aR t i).length then 3
 else qF (λk=>tL ((aR t i).take k) ((aR t i).getD k default)) ((aR t i).length-(t.nodes.getD i default).attrs.length) (aR t i).length
theorem ar0{t:Types}{i:Nat}(h:lW t i=0) : -1<=(t.nodes.getD i default).parent/\(t.nodes.getD i default).parent<i:=by
 unfold lW at h;split at h
 ·cases h
 ·split at h
  ·cases h
  ·split at h
   ·cases h
   ·rename_i h1;exact Decidable.of_not_not h1
theorem ays(t:Types)(hf:jB t)(i:Nat)(hi:i<t.nodes.length)(hp:qp t i):aB pw 168 [ax t,.val (.int .i64 i)] (λr=>r = .val (.int .i64 (lW t i))):=by
 have hn:=hf.nodes;have ql:=hf.attrs _ (gF hi);refine aC [] func168 ?_;rw[ntmps168,results168];simp only[go_sem,ax,getD_map az hi,hi,az];refine aU (wk (t.nodes.getD i default).name (Nat.le_trans (hf.name _ (gF hi)) (by decide))) (by simp only[go_sem,ax,getD_map az hi,hi,az]<;>rfl) (cF rfl) ?_;simp only[go_sem,ax,getD_map az hi,hi,az];refine aV (λh1=>?_) (λh1=>?_)<;>simp only[go_sem,ax,getD_map az hi,hi,az]
 ·refine⟨⟨⟨by omega,by omega⟩,λx hx=>by obtain⟨a,_,rfl⟩:=List.mem_map.1 hx;rfl⟩,?_⟩;refine aU (agL (λy=>decide (y.name=(t.nodes.getD i default).name)) (t.nodes.take i) (by simp;omega) _ [] [.fq (az (t.nodes.getD i default)) 0] (λy _=>avp _ y)) (by simp only[go_sem,ax,getD_map az hi,hi,az]<;>rfl) (cF rfl) ?_;simp only[go_sem,ax,getD_map az hi,hi,az];refine aJ (λh2=>?_) (λh2=>?_)<;>simp only[go_sem,ax,getD_map az hi,hi,az]
  ·unfold lW;rw[if_neg (by rw[h1];decide),if_pos h2]
  ·have e1 : lW t i = if ¬ (-1 ≤ (t.nodes.getD i default).parent ∧ (t.nodes.getD i default).parent < i) then 6
     else if 4<(t.nodes.getD i default).attrs.length then 3 else if 8<(aR t i).length then 3
     else qF (λk=>tL ((aR t i).take k) ((aR t i).getD k default)) ((aR t i).length-(t.nodes.getD i default).attrs.length) (aR t i).length:=by
    unfold lW;rw[if_neg (by rw[h1];decide),if_neg (by rw[h2];decide)]
   rw[e1];clear e1;refine bJ (λh3=>?_) (λh3=>?_)<;>simp only[go_sem,h3,ax,getD_map az hi,hi,az]
   ·have h3':=bY h3;rw[if_pos (by omega)]
   ·have h3':=dm h3;refine aJ (λh4=>?_) (λh4=>?_)<;>simp only[go_sem,ax,getD_map az hi,hi,az]
    ·have h4':=bY h4;rw[if_pos (by omega)]
    ·have h4':=dm h4;rw[if_neg (by omega)];refine aJ (λh5=>?_) (λh5=>?_)<;>simp only[go_sem,ax,getD_map az hi,hi,az]
     ·have h5':=bY h5;rw[if_pos (by omega)]
     ·have h5':=dm h5;rw[if_neg (by omega)];have hp':qp t (i+1):=λj hj=>by
       rcases Nat.lt_succ_iff_lt_or_eq.1 hj with h|h
       ·exact hp j h
       ·subst h;omega
      have hlen:=lV hf hi hp';have hat:(t.nodes.getD i default).attrs.length<=(aR t i).length:=by rw[tI hp',List.length_append];omega
      generalize hs:(aR t i).length-(t.nodes.getD i default).attrs.length=s;have hw:i64.wrap (((aR t i).length:Int)-((t.nodes.getD i default).attrs.length:Int))=s:=by rw[IntWalk.i64_in _ (by omega)];omega
      refine aU ((alx t hf i hi hp').toL) (by simp only[go_sem,ax,getD_map az hi,hi,az]<;>rfl) (abB) ?_;simp only[go_sem,ax,getD_map az hi,hi,az];refine aJ (λh6=>?_) (λh6=>?_)<;>simp only[go_sem,ax,getD_map az hi,hi,az]
      ·have h6':=bY h6;rw[if_pos (by omega)]
      ·have h6':=dm h6;rw[if_neg (by omega),hw];generalize hf':(λk=>tL ((aR t i).take k) ((aR t i).getD k default))=f;refine ck (σ:=Nat) (λx=>(cD (cD (cD (cD (cD gU 1 (.p (.val (.int .i64 i)))) 2 (.ptr 2 0)) 5 (.ptr 5 0)) 6 (.p (.aE ((aR t i).map aN)))) 7 (.p (.val (.int .i64 x)))))
        (λx=>(bh (bh cv 2 (.box [.p (.aE (t.nodes.map az)),.p (.aE (t.ag.map aA))])) 5 (.box [.p (.val (.string (t.nodes.getD i default).name)),.p (.val (.int .i64 (t.nodes.getD i default).parent)),.p (.val (.bool (t.nodes.getD i default).abs)),.p (.aE ((t.nodes.getD i default).attrs.map aN))])))
        (λx=>(s<=x/\x<=(aR t i).length)/\∀j,s<=j->j<x->f j=0) (λx=>(aR t i).length-x) s ⟨⟨Nat.le_refl _,by omega⟩,λj hj hj'=>absurd hj' (by omega)⟩ cJ ?_
       rintro x ⟨⟨hsx,hx⟩,hq⟩;simp only[go_sem,ax,getD_map az hi,hi,az];refine aJ (λhc=>?_) (λhc=>?_)
       ·have hlt:x<(aR t i).length:=by have:=bY hc;omega
        simp only[go_sem,ax,getD_map az hi,hi,az,getD_map aN hlt,hlt,aN];refine jh [.q,.q,.q,.q,.q,.q,.q,.q,.q] (by kernel_rfl) ?_;simp only[go_sem,ax,getD_map az hi,hi,az,getD_map aN hlt,hlt,aN];refine⟨⟨⟨by omega,by omega⟩,zS _⟩,?_⟩;refine nk (aja ((aR t i).getD x default) ((aR t i).take x) (hf.ayr hi hp' (gF hlt)) (by simp;omega)) (by simp only[go_sem,ax,getD_map az hi,hi,az,getD_map aN hlt,hlt,aN]<;>rfl) (cF rfl) ?_;simp only[go_sem,ax,getD_map az hi,hi,az,getD_map aN hlt,hlt,aN];have e:f x=tL ((aR t i).take x) ((aR t i).getD x default):=by rw[<-hf']
        rw[<-e];refine aV (λh7=>?_) (λh7=>?_)<;>simp only[go_sem,ax,getD_map az hi,hi,az,getD_map aN hlt,hlt,aN]
        ·have h7':=bY h7;exact cC (x+1) ⟨⟨by omega,hlt⟩,λj hj hj'=>by
          rcases Nat.lt_succ_iff_lt_or_eq.1 hj' with h|h
          ·exact hq j hj h
          ·rw[h];exact h7'⟩ (by omega) (by rw[bX hlt (by omega)];exact cJ)
        ·have h7':=dm h7;rw[wm hsx hlt hq h7']
       ·have hge:(aR t i).length<=x:=by have:=dm hc;omega
        simp only[go_sem,ax,getD_map az hi,hi,az];rw[zT λj hj hj'=>hq j hj (by omega)]
 ·unfold lW;rw[if_pos h1]
def inB(t:Types)(n:Int):Bool:=decide (0<=n)&&decide (n<t.nodes.length)
theorem ahs(t:Types)(n:Int):aB pw 244 [.val (.int .i64 n),.fq [.aE (t.nodes.map az),.aE (t.ag.map aA)] 0] (λr=>r = .val (.bool (inB t n))):=by
 unfold inB;refine aC [] func244 ?_;rw[ntmps244,results244];simp only[go_sem]
 repeat' first|done|(refine bJ (λh=>?_) (λh=>?_)<;>try simp only[go_sem,h])|(refine bA (λh=>?_) (λh=>?_)<;>try simp only[go_sem,h])|(refine aV (λh=>?_) (λh=>?_)<;>try simp only[go_sem,h])|(refine aJ (λh=>?_) (λh=>?_)<;>try simp only[go_sem,h])
def nZ(t:Types)(i:Nat):Int :=
 if kX (t.ag.getD i default).name=false then 2
 else if (t.ag.take i).any (λy=>decide (y.name=(t.ag.getD i default).name))=true then 5
 else if ((inB t (t.ag.getD i default).src&&inB t (t.ag.getD i default).dst)&&(vG (t.ag.getD i default).vE (t.ag.getD i default).qY&&vG (t.ag.getD i default).aa6 (t.ag.getD i default).vF))=true then 0 else 6
theorem ayt(t:Types)(hf:jB t)(i:Nat)(hi:i<t.ag.length):aB pw 169 [ax t,.val (.int .i64 i)] (λr=>r = .val (.int .i64 (nZ t i))):=by
 have hn:=hf.ag;refine aC [] func169 ?_;rw[ntmps169,results169];simp only[go_sem,ax,getD_map aA hi,hi,aA];refine aU (wk (t.ag.getD i default).name (Nat.le_trans (hf.azC _ (gF hi)) (by decide))) (by simp only[go_sem,ax,getD_map aA hi,hi,aA]<;>rfl) (cF rfl) ?_;simp only[go_sem,ax,getD_map aA hi,hi,aA];refine aV (λh1=>?_) (λh1=>?_)<;>simp only[go_sem,ax,getD_map aA hi,hi,aA]
 ·refine⟨⟨⟨by omega,by omega⟩,λx hx=>by obtain⟨a,_,rfl⟩:=List.mem_map.1 hx;rfl⟩,?_⟩;refine aU (afv (λy=>decide (y.name=(t.ag.getD i default).name)) (t.ag.take i) (by simp;omega) _ [] [.fq (aA (t.ag.getD i default)) 0] (λy _=>avq _ y)) (by simp only[go_sem,ax,getD_map aA hi,hi,aA]<;>rfl) (cF rfl) ?_;simp only[go_sem,ax,getD_map aA hi,hi,aA];refine aJ (λh2=>?_) (λh2=>?_)<;>simp only[go_sem,ax,getD_map aA hi,hi,aA]
  ·unfold nZ;rw[if_neg (by rw[h1];decide),if_pos h2]
  ·have e1:nZ t i=if ((inB t (t.ag.getD i default).src&&inB t (t.ag.getD i default).dst)&&(vG (t.ag.getD i default).vE (t.ag.getD i default).qY&&vG (t.ag.getD i default).aa6 (t.ag.getD i default).vF))=true then 0 else 6:=by unfold nZ;rw[if_neg (by rw[h1];decide),if_neg (by rw[h2];decide)]
   rw[e1];clear e1;refine aU (ahs t (t.ag.getD i default).src) (by simp only[go_sem,ax,getD_map aA hi,hi,aA]<;>rfl) (cF rfl) ?_;simp only[go_sem,ax,getD_map aA hi,hi,aA];refine bA (λh3=>?_) (λh3=>?_)<;>simp only[go_sem,h3,ax,getD_map aA hi,hi,aA]
   refine aU (ahs t (t.ag.getD i default).dst) (by simp only[go_sem,ax,getD_map aA hi,hi,aA]<;>rfl) (cF rfl) ?_;simp only[go_sem,h3,ax,getD_map aA hi,hi,aA];refine aV (λh4=>?_) (λh4=>?_)<;>simp only[go_sem,h4,ax,getD_map aA hi,hi,aA]
   refine aU (afu (t.ag.getD i default).vE (t.ag.getD i default).qY) (by simp only[go_sem,ax,getD_map aA hi,hi,aA]<;>rfl) (cF rfl) ?_;simp only[go_sem,ax,getD_map aA hi,hi,aA];refine bA (λh5=>?_) (λh5=>?_)<;>simp only[go_sem,h5,ax,getD_map aA hi,hi,aA]
   refine aU (afu (t.ag.getD i default).aa6 (t.ag.getD i default).vF) (by simp only[go_sem,ax,getD_map aA hi,hi,aA]<;>rfl) (cF rfl) ?_;simp only[go_sem,ax,getD_map aA hi,hi,aA];refine aV (λh6=>?_) (λh6=>?_)<;>simp only[go_sem,h6,ax,getD_map aA hi,hi,aA]
 ·unfold nZ;rw[if_pos h1]
def cZ(t:Types):ByteArray×Int :=
 if t.nodes.length=0 then (⟨#[]⟩,7)
 else if 12<t.nodes.length\/20<t.ag.length then (⟨#[]⟩,3)
 else match kQ (lW t) 0 t.nodes.length with
  |some k=>((t.nodes.getD k default).name,lW t k)
  |none=>match kQ (nZ t) 0 t.ag.length with
   |some k=>((t.ag.getD k default).name,nZ t k)
   |none=>(⟨#[]⟩,0)
theorem afA{t:Types}{n:Nat}(h:∀j,j<n->lW t j=0):qp t n:=λj hj=>ar0 (h j hj)
theorem afB(t:Types)(hf:jB t):aB pw 100 [ax t] (λr=>r = .dg [.val (.string (cZ t).1),.val (.int .i64 (cZ t).2)]):=by
 have hn:=hf.nodes;have hm:=hf.ag;refine aC [] func100 ?_;rw[ntmps100,results100];simp only[go_sem,ax];refine aJ (λh1=>?_) (λh1=>?_)<;>simp only[go_sem,ax]
 ·have yB:=bY h1;unfold cZ;rw[if_pos (by omega)];exact⟨rfl,rfl⟩
 ·have yB:=dm h1;have hN:t.nodes.length≠0:=by omega
  have big:12<t.nodes.length\/20<t.ag.length->cZ t=(⟨#[]⟩,3):=λh=>by unfold cZ;rw[if_neg hN,if_pos h]
  refine bJ (λh2=>?_) (λh2=>?_)<;>simp only[go_sem,h2,ax]
  ·have h2':=bY h2;rw[big (by omega)];exact⟨rfl,rfl⟩
  ·have h2':=dm h2;refine aJ (λh3=>?_) (λh3=>?_)<;>simp only[go_sem,ax]
   ·have h3':=bY h3;rw[big (by omega)];exact⟨rfl,rfl⟩
   ·have h3':=dm h3
    have hV : cZ t = match kQ (lW t) 0 t.nodes.length with
      |some k=>((t.nodes.getD k default).name,lW t k)
      |none=>match kQ (nZ t) 0 t.ag.length with
       |some k=>((t.ag.getD k default).name,nZ t k)
       |none=>(⟨#[]⟩,0):=by unfold cZ;rw[if_neg hN,if_neg (by omega)]
    clear big;refine ck (σ:=Nat) (λx=>(cD (cD (cD (cD gU 1 (.ptr 1 0)) 27 (.p (.aE (t.nodes.map az)))) 28 (.p (.val (.int .i64 t.nodes.length)))) 29 (.p (.val (.int .i64 x)))))
     (λx=>(bh cv 1 (.box [.p (.aE (t.nodes.map az)),.p (.aE (t.ag.map aA))])))
     (λx=>x<=t.nodes.length/\∀j,j<x->lW t j=0) (λx=>t.nodes.length-x) 0 ⟨Nat.zero_le _,λj hj=>absurd hj (Nat.not_lt_zero j)⟩ cJ ?_
    rintro x ⟨hx,hq⟩;simp only[go_sem,ax];refine aJ (λhc=>?_) (λhc=>?_)
    ·have hlt:x<t.nodes.length:=by simpa using hc
     simp only[go_sem,ax,getD_map az hlt,hlt,az];refine aU (ays t hf x hlt (afA hq)) (by simp only[go_sem,ax,getD_map az hlt,hlt,az]<;>rfl) (cF rfl) ?_;simp only[go_sem,ax,getD_map az hlt,hlt,az];refine aV (λh4=>?_) (λh4=>?_)<;>simp only[go_sem,ax,getD_map az hlt,hlt,az]
     ·have h4':=bY h4;exact cC (x+1) ⟨hlt,all_succ hq h4'⟩ (by omega) (by rw[bX hlt (by omega)];exact cJ)
     ·have h4':=dm h4;rw[hV,oU (Nat.zero_le _) hlt (λj _=>hq j) h4'];exact⟨rfl,rfl⟩
    ·have hge:t.nodes.length<=x:=by simpa using hc
     have hN0:kQ (lW t) 0 t.nodes.length=none:=kH λj _ hj=>hq j (by omega)
     rw[hN0] at hV;simp only[] at hV;simp only[go_sem,ax];refine ck (σ:=Nat) (λx=>(cD (cD (cD (cD gU 1 (.ptr 1 0)) 44 (.p (.aE (t.ag.map aA)))) 45 (.p (.val (.int .i64 t.ag.length)))) 46 (.p (.val (.int .i64 x)))))
      (λx=>(bh cv 1 (.box [.p (.aE (t.nodes.map az)),.p (.aE (t.ag.map aA))])))
      (λx=>x<=t.ag.length/\∀j,j<x->nZ t j=0) (λx=>t.ag.length-x) 0 ⟨Nat.zero_le _,λj hj=>absurd hj (Nat.not_lt_zero j)⟩ cJ ?_
     rintro y ⟨hy,hq'⟩;simp only[go_sem,ax];refine aJ (λyP=>?_) (λyP=>?_)
     ·have hlt:y<t.ag.length:=by simpa using yP
      simp only[go_sem,ax,getD_map aA hlt,hlt,aA];refine aU (ayt t hf y hlt) (by simp only[go_sem,ax,getD_map aA hlt,hlt,aA]<;>rfl) (cF rfl) ?_;simp only[go_sem,ax,getD_map aA hlt,hlt,aA];refine aV (λh4=>?_) (λh4=>?_)<;>simp only[go_sem,ax,getD_map aA hlt,hlt,aA]
      ·have h4':=bY h4;exact cC (y+1) ⟨hlt,all_succ hq' h4'⟩ (by omega) (by rw[bX hlt (by omega)];exact cJ)
      ·have h4':=dm h4;rw[hV,oU (Nat.zero_le _) hlt (λj _=>hq' j) h4'];exact⟨rfl,rfl⟩
     ·have hge:t.ag.length<=y:=by simpa using yP
      simp only[go_sem,ax];rw[hV,kH λj _ hj=>hq' j (by omega)];exact⟨rfl,rfl⟩
theorem ri{α:Type} [Inhabited α]{p:α->Bool}{l:List α}{x j:Nat}(hj:j<x)(hx:x<=l.length)(h:p (l.getD j default)=true):(l.take x).any p=true:=by
 have hjl:j<l.length:=by omega
 refine List.any_eq_true.2 ⟨l[j],List.mem_iff_getElem.2 ⟨j,by simp;omega,by simp⟩,?_⟩;simpa[hjl] using h
theorem nr{α:Type} [Inhabited α]{p:α->Bool}{l:List α}{x:Nat}(hx:x<=l.length)(h:∀j,j<x->p (l.getD j default)=false):(l.take x).any p=false:=by
 rw[List.any_eq_false];intro a ha;obtain⟨j,hj,rfl⟩:=List.mem_iff_getElem.1 ha;simp only[List.length_take] at hj;have:=h j (by omega);have hjl:j<l.length:=by omega
 simpa[hjl] using this
theorem aly{α:Type} [DecidableEq α]{a b:α}{c:Bool}(h:decide (a=b)=c):decide (b=a)=c:=by rw[<-h];simp[eq_comm]
theorem th{p:Nat->Bool}{x:Nat}(h:∀j,j<x->p j=false)(hx:p x=false):∀j,j<x+1->p j=false:=λj hj=>by
 rcases Nat.lt_succ_iff_lt_or_eq.1 hj with h'|h'
 ·exact h j h'
 ·rw[h'];exact hx
theorem ar1(l:List ByteArray)(hl:l.length<=25)(hw:∀s∈l,s.size<=40):aB pw 287 [.aE (l.map encS)] (λr=>r = .val (.int .i64 (abE l))):=by
 unfold abE;refine aC [] func287 ?_;rw[ntmps287,results287];simp only[go_sem];refine aJ (λh0=>?_) (λh0=>?_)<;>simp only[go_sem]
 ·have h0':20<l.length:=by have:=bY h0;omega
  rw[if_pos h0']
 ·have h0':¬ 20<l.length:=by have:=dm h0;omega
  rw[if_neg h0'];refine ck (σ:=Nat) (λx=>(cD (cD gU 0 (.p (.aE (l.map encS)))) 3 (.p (.val (.int .i64 x))))) (λx=>cv)
   (λx=>x<=l.length/\∀j,j<x->tK l j=0) (λx=>l.length-x) 0 ⟨Nat.zero_le _,λj hj=>absurd hj (Nat.not_lt_zero j)⟩ cJ ?_
  rintro x ⟨hx,hq⟩;simp only[go_sem];refine aJ (λhc=>?_) (λhc=>?_)
  ·have hlt:x<l.length:=by simpa using hc
   simp only[go_sem,getD_map encS hlt,hlt,encS];refine aU (tH (l.getD x default) (Nat.le_trans (hw _ (gF hlt)) (by decide))) (by simp only[go_sem,getD_map encS hlt,hlt,encS]<;>rfl) (cF rfl) ?_;simp only[go_sem,getD_map encS hlt,hlt,encS];refine aV (λh1=>?_) (λh1=>?_)<;>simp only[go_sem,getD_map encS hlt,hlt,encS]
   ·refine ck (σ:=Nat) (λy=>(cD (cD (cD gU 0 (.p (.aE (l.map encS)))) 3 (.p (.val (.int .i64 x)))) 4 (.p (.val (.int .i64 y))))) (λ_=>cv)
     (λy=>y<=x/\∀j,j<y->decide (l.getD x default=l.getD j default)=false) (λy=>x-y) 0 ⟨Nat.zero_le _,λj hj=>absurd hj (Nat.not_lt_zero j)⟩ cJ ?_
    rintro y ⟨hy,hqy⟩;simp only[go_sem,getD_map encS hlt,hlt,encS];refine aJ (λyP=>?_) (λyP=>?_)
    ·have hlty:y<x:=by simpa using yP
     have adj:y<l.length:=by omega
     simp only[go_sem,getD_map encS hlt,hlt,encS,getD_map encS adj,adj];refine jh [.q,.q,.q,.q,.q,.q,.q,.q,.q] (by kernel_rfl) ?_;simp only[go_sem,getD_map encS hlt,hlt,encS,getD_map encS adj,adj];refine aJ (λh2=>?_) (λh2=>?_)<;>simp only[go_sem,getD_map encS hlt,hlt,encS,getD_map encS adj,adj]
     ·have:tK l x=5:=by unfold tK;rw[if_neg (by rw[h1];decide),if_pos (ri hlty hx (aly h2))]
      rw[tJ hlt hq (by rw[this];decide),this]
     ·exact cC (y+1) ⟨hlty,th hqy (aly h2)⟩ (by omega) (by rw[bX hlty (by omega)];exact cJ)
    ·have hge:x<=y:=by simpa using yP
     simp only[go_sem,getD_map encS hlt,hlt,encS];have:tK l x=0:=by unfold tK;rw[if_neg (by rw[h1];decide),if_neg (by rw[nr (p:=λz=>decide (l.getD x default=z)) hx λj hj=>hqy j (by omega)];decide)]
     exact cC (x+1) ⟨hlt,all_succ hq this⟩ (by omega) (by rw[bX hlt (by omega)];exact cJ)
   ·have:tK l x=2:=by unfold tK;rw[if_pos h1]
    rw[tJ hlt hq (by rw[this];decide),this]
  ·have hge:l.length<=x:=by simpa using hc
   simp only[go_sem];rw[xz λj hj=>hq j (by omega)]
theorem agO(x:Attr)(hx:aAg x):aB pw 201 [.agg (aN x)] (λr=>r = .val (.int .i64 (yD x))):=by
 have hn:=hx.names;refine aC [] func201 ?_;rw[ntmps201,results201];simp only[go_sem,aN,cz];have hw:i64.wrap ((x.names.length:Int)-1)=(x.names.length:Int)-1:=IntWalk.i64_in _ (by omega);have hnil:x.names.length=0->abE x.names=0:=λh=>by have:x.names=[]:=List.length_eq_zero_iff.1 h;rw[this];try rfl
 refine aJ (λh1=>?_) (λh1=>?_)<;>simp only[go_sem,aN,cz]
 ·have yB:=bY h1;have e:yD x=if adi x=true then 0 else 6:=by unfold yD;rw[if_neg (by rw[hnil (by omega)];decide)]
  rw[e];refine aU (aa7 x.low (-1000000) 1000000) (by simp only[go_sem,aN,cz]<;>rfl) (cF rfl) ?_;simp only[go_sem,aN,cz];refine bA (λh2=>?_) (λh2=>?_)<;>simp only[go_sem,h2,aN,cz]
  ·refine aU (aa7 x.high x.low 1000000) (by simp only[go_sem,aN,cz]<;>rfl) (cF rfl) ?_;simp only[go_sem,aN,cz];refine aV (λh3=>?_) (λh3=>?_)<;>simp only[go_sem,aN,cz]
   all_goals
    simp only[Bool.and_eq_true,Bool.and_eq_false_iff] at *;simp only[Bool.not_eq_true',Bool.not_eq_false',decide_eq_true_eq,decide_eq_false_iff_not,Decidable.not_not] at *;split<;>rename_i hr<;>rw[xA] at hr<;>omega
  ·simp only[Bool.and_eq_true,Bool.and_eq_false_iff] at *;simp only[Bool.not_eq_true',Bool.not_eq_false',decide_eq_true_eq,decide_eq_false_iff_not,Decidable.not_not] at *;split<;>rename_i hr<;>rw[xA] at hr<;>omega
 ·have yB:=dm h1;refine aU (ar1 x.names hx.names hx.word) (by simp only[go_sem,aN,cz]<;>rfl) (cF rfl) ?_;simp only[go_sem,aN,cz];refine aV (λh3=>?_) (λh3=>?_)<;>simp only[go_sem,aN,cz]
  ·have h3':=bY h3;have e2:yD x=if adi x=true then 0 else 6:=by unfold yD;rw[if_neg (by rw[h3'];decide)]
   rw[e2]
   repeat' first|done|(refine bJ (λh=>?_) (λh=>?_)<;>try simp only[go_sem,h,hw,aN,cz])|(refine bA (λh=>?_) (λh=>?_)<;>try simp only[go_sem,h,hw,aN,cz])|(refine aV (λh=>?_) (λh=>?_)<;>try simp only[go_sem,h,hw,aN,cz])|(refine aJ (λh=>?_) (λh=>?_)<;>try simp only[go_sem,h,hw,aN,cz])
   all_goals
    simp only[Bool.not_eq_true',Bool.not_eq_false',decide_eq_true_eq,decide_eq_false_iff_not,Decidable.not_not] at *;split<;>rename_i hr<;>rw[xA] at hr<;>omega
  ·have h3':=dm h3;unfold yD;rw[if_pos h3']
def afC(t:Types)(a:Int):List Attr:=if a<0 then [] else aR t a.toNat
theorem aom(t:Types)(a:Int)(ha:a<0):aZ pw 165 [ax t,.val (.int .i64 a)] (λr=>r = .row 185 4 []):=by
 refine bl [7] func165 ?_;rw[ntmps165,results165];simp only[go_sem,ax];refine aJ (λh0=>?_) (λh0=>?_)<;>simp only[go_sem]
 ·exact⟨by decide,_,.nil _ _ (by decide),rfl⟩
 ·have:=dm h0;omega
theorem aht(t:Types)(hf:jB t):∀ (a:Nat),a<t.nodes.length->qp t (a+1)->aZ pw 165 [ax t,.val (.int .i64 a)] (λr=>r = .row 185 4 ((aR t a).map aN)):=by
 intro a
 induction a using Nat.strongRecOn with
 |_ a ih =>
  intro ha hp;have hq:=hp a (by omega);have h1:=hf.attrs _ (gF ha);have hlen:=lV hf ha hp;have aAh:aZ pw 165 [ax t,.val (.int .i64 (t.nodes.getD a default).parent)] (λr=>r = .row 185 4 ((afC t (t.nodes.getD a default).parent).map aN)):=by
   by_cases h0:(t.nodes.getD a default).parent<0
   ·have:=aom t _ h0;unfold afC;rw[if_pos h0];exact this
   ·obtain⟨q,hqq⟩:∃q:Nat,(t.nodes.getD a default).parent=q:=⟨_,(Int.toNat_of_nonneg (by omega)).symm⟩;unfold afC;rw[if_neg h0,hqq,Int.toNat_natCast];have hqa:q<a:=by have:=hq.2;rw[hqq] at this;omega
    exact ih q hqa (by omega) (λj hj=>hp j (by omega))
  have e:aR t a=afC t (t.nodes.getD a default).parent++(t.nodes.getD a default).attrs:=by
   rw[tI hp];unfold afC;by_cases h0:(t.nodes.getD a default).parent<0
   ·rw[if_pos h0,if_neg (by omega)]
   ·rw[if_neg h0,if_pos (by omega)]
  rw[e,List.length_append] at hlen;rw[e];refine bl [7] func165 ?_;rw[ntmps165,results165];simp only[go_sem,ax,getD_map az ha,ha,az];refine aJ (λh0=>?_) (λh0=>?_)<;>simp only[go_sem,getD_map az ha,ha,az]
  ·have:=bY h0;omega
  ·refine apE [(1,.q),(2,.q),(3,.q),(4,.q),(5,.q),(6,.q),(7,.q),(8,.q),(10,.b),(11,.b),(12,.b),(13,.b),(14,.b),(15,.b),(0,.w),(9,.s),(16,.w),(17,.q)] (by kernel_rfl) ?_;simp only[go_sem,getD_map az ha,ha,az];refine nk (aAh.toL) (by simp only[go_sem,getD_map az ha,ha,az]<;>rfl) (abB) ?_;simp only[go_sem,getD_map az ha,ha,az];exact⟨⟨⟨_,rfl⟩,_,rfl⟩,⟨by omega,zS _⟩,⟨by omega,zS _⟩,by decide,_,.refl _,by rw[List.map_append]⟩
theorem avr(t:Types)(hf:jB t)(i:Nat)(hi:i<t.nodes.length)(hp:qp t i):aB pw 122 [ax t,.val (.int .i64 i)] (λr=>r = .val (.int .i64 (lW t i))):=by
 have hn:=hf.nodes;have ql:=hf.attrs _ (gF hi);refine aC [] func122 ?_;rw[ntmps122,results122];simp only[go_sem,ax,getD_map az hi,hi,az];refine aU (tH (t.nodes.getD i default).name (Nat.le_trans (hf.name _ (gF hi)) (by decide))) (by simp only[go_sem,ax,getD_map az hi,hi,az]<;>rfl) (cF rfl) ?_;simp only[go_sem,ax,getD_map az hi,hi,az];refine aV (λh1=>?_) (λh1=>?_)<;>simp only[go_sem,ax,getD_map az hi,hi,az]
 ·refine ck (σ:=Nat) (λx=>(cD (cD (cD (cD gU 1 (.p (.val (.int .i64 i)))) 2 (.ptr 2 0)) 5 (.ptr 5 0)) 6 (.p (.val (.int .i64 x)))))
   (λx=>(bh (bh cv 2 (.box [.p (.aE (t.nodes.map az)),.p (.aE (t.ag.map aA))])) 5 (.box [.p (.val (.string (t.nodes.getD i default).name)),.p (.val (.int .i64 (t.nodes.getD i default).parent)),.p (.val (.bool (t.nodes.getD i default).abs)),.p (.aE ((t.nodes.getD i default).attrs.map aN))])))
   (λx=>x<=i/\∀j,j<x->decide ((t.nodes.getD j default).name=(t.nodes.getD i default).name)=false) (λx=>i-x) 0 ⟨Nat.zero_le _,λj hj=>absurd hj (Nat.not_lt_zero j)⟩ cJ ?_
  rintro x ⟨hx,hqx⟩;simp only[go_sem,ax,getD_map az hi,hi,az];refine aJ (λhc=>?_) (λhc=>?_)
  ·have aon:x<i:=by simpa using hc
   have hxl:x<t.nodes.length:=by omega
   simp only[go_sem,ax,getD_map az hi,hi,az,getD_map az hxl,hxl];refine jh [.q,.q,.q,.q,.q,.q,.q,.q,.q] (by kernel_rfl) ?_;simp only[go_sem,ax,getD_map az hi,hi,az,getD_map az hxl,hxl];refine aJ (λh2=>?_) (λh2=>?_)<;>simp only[go_sem,ax,getD_map az hi,hi,az,getD_map az hxl,hxl]
   ·have:lW t i=5:=by unfold lW;rw[if_neg (by rw[h1];decide),if_pos (ri (p:=λy:qo=>decide (y.name=(t.nodes.getD i default).name)) aon (by omega) h2)]
    rw[this]
   ·exact cC (x+1) ⟨aon,th hqx h2⟩ (by omega) (by rw[bX aon (by omega)];exact cJ)
  ·have hge:i<=x:=by simpa using hc
   have akY:=nr (p:=λy:qo=>decide (y.name=(t.nodes.getD i default).name)) (Nat.le_of_lt hi) λj hj=>hqx j (by omega)
   have e1 : lW t i = if ¬ (-1 ≤ (t.nodes.getD i default).parent ∧ (t.nodes.getD i default).parent < i) then 6
     else if 4<(t.nodes.getD i default).attrs.length then 3 else if 8<(aR t i).length then 3
     else qF (λk=>tL ((aR t i).take k) ((aR t i).getD k default)) ((aR t i).length-(t.nodes.getD i default).attrs.length) (aR t i).length:=by
    unfold lW;rw[if_neg (by rw[h1];decide),if_neg (by rw[akY];decide)]
   rw[e1];clear e1;have hwi:i64.wrap ((i:Int)-1)=(i:Int)-1:=IntWalk.i64_in _ (by omega);simp only[go_sem,hwi,ax,getD_map az hi,hi,az];refine aU (aa7 (t.nodes.getD i default).parent (-1) (i-1)) (by simp only[go_sem,ax,getD_map az hi,hi,az]<;>rfl) (cF rfl) ?_;simp only[go_sem,ax,getD_map az hi,hi,az];refine aV (λh3=>?_) (λh3=>?_)<;>simp only[go_sem,ax,getD_map az hi,hi,az]
   ·simp only[Bool.and_eq_true,decide_eq_true_eq] at h3;rw[if_neg (by omega)];have hp':qp t (i+1):=λj hj=>by
     rcases Nat.lt_succ_iff_lt_or_eq.1 hj with h|h
     ·exact hp j h
     ·subst h;omega
    have hlen:=lV hf hi hp';have hat:(t.nodes.getD i default).attrs.length<=(aR t i).length:=by rw[tI hp',List.length_append];omega
    generalize hs:(aR t i).length-(t.nodes.getD i default).attrs.length=s;have hw:i64.wrap (((aR t i).length:Int)-((t.nodes.getD i default).attrs.length:Int))=s:=by rw[IntWalk.i64_in _ (by omega)];omega
    refine aU ((aht t hf i hi hp').toL) (by simp only[go_sem,ax,getD_map az hi,hi,az]<;>rfl) (abB) ?_;simp only[go_sem,ax,getD_map az hi,hi,az];refine bJ (λh5=>?_) (λh5=>?_)<;>simp only[go_sem,h5,ax,getD_map az hi,hi,az]
    ·have h5':=bY h5;rw[if_pos (by omega)]
    ·have h5':=dm h5;rw[if_neg (by omega)];refine aJ (λh6=>?_) (λh6=>?_)<;>simp only[go_sem,ax,getD_map az hi,hi,az]
     ·have h6':=bY h6;rw[if_pos (by omega)]
     ·have h6':=dm h6;rw[if_neg (by omega),hw];generalize hf':(λk=>tL ((aR t i).take k) ((aR t i).getD k default))=f;refine ck (σ:=Nat) (λx=>(cD (cD (cD (cD (cD gU 1 (.p (.val (.int .i64 i)))) 2 (.ptr 2 0)) 5 (.ptr 5 0)) 7 (.p (.aE ((aR t i).map aN)))) 8 (.p (.val (.int .i64 x)))))
       (λx=>(bh (bh cv 2 (.box [.p (.aE (t.nodes.map az)),.p (.aE (t.ag.map aA))])) 5 (.box [.p (.val (.string (t.nodes.getD i default).name)),.p (.val (.int .i64 (t.nodes.getD i default).parent)),.p (.val (.bool (t.nodes.getD i default).abs)),.p (.aE ((t.nodes.getD i default).attrs.map aN))])))
       (λx=>(s<=x/\x<=(aR t i).length)/\∀j,s<=j->j<x->f j=0) (λx=>(aR t i).length-x) s ⟨⟨Nat.le_refl _,by omega⟩,λj hj hj'=>absurd hj' (by omega)⟩ cJ ?_
      rintro x ⟨⟨hsx,hx⟩,hq⟩;simp only[go_sem,ax,getD_map az hi,hi,az];refine aJ (λhc=>?_) (λhc=>?_)
      ·have hlt:x<(aR t i).length:=by have:=bY hc;omega
       have hA:=hf.ayr hi hp' (gF hlt);have e:f x=tL ((aR t i).take x) ((aR t i).getD x default):=by rw[<-hf']
       simp only[go_sem,ax,getD_map az hi,hi,az,getD_map aN hlt,hlt,aN];refine aU (tH ((aR t i).getD x default).name (Nat.le_trans hA.name (by decide))) (by simp only[go_sem,ax,getD_map az hi,hi,az,getD_map aN hlt,hlt,aN]<;>rfl) (cF rfl) ?_;simp only[go_sem,ax,getD_map az hi,hi,az,getD_map aN hlt,hlt,aN];refine aV (λh7=>?_) (λh7=>?_)<;>simp only[go_sem,ax,getD_map az hi,hi,az,getD_map aN hlt,hlt,aN]
       ·refine ck (σ:=Nat) (λy=>(cD (cD (cD (cD (cD (cD gU 1 (.p (.val (.int .i64 i)))) 2 (.ptr 2 0)) 5 (.ptr 5 0)) 7 (.p (.aE ((aR t i).map aN)))) 8 (.p (.val (.int .i64 x)))) 9 (.p (.val (.int .i64 y)))))
         (λx=>(bh (bh cv 2 (.box [.p (.aE (t.nodes.map az)),.p (.aE (t.ag.map aA))])) 5 (.box [.p (.val (.string (t.nodes.getD i default).name)),.p (.val (.int .i64 (t.nodes.getD i default).parent)),.p (.val (.bool (t.nodes.getD i default).abs)),.p (.aE ((t.nodes.getD i default).attrs.map aN))])))
         (λy=>y<=x/\∀j,j<y->decide (((aR t i).getD j default).name=((aR t i).getD x default).name)=false) (λy=>x-y) 0 ⟨Nat.zero_le _,λj hj=>absurd hj (Nat.not_lt_zero j)⟩ cJ ?_
        rintro y ⟨hy,hqy⟩;simp only[go_sem,ax,getD_map az hi,hi,az,getD_map aN hlt,hlt,aN];refine aJ (λyP=>?_) (λyP=>?_)
        ·have hlty:y<x:=by simpa using yP
         have adj:y<(aR t i).length:=by omega
         simp only[go_sem,ax,getD_map az hi,hi,az,getD_map aN hlt,hlt,aN,getD_map aN adj,adj];refine jh [.q,.q,.q,.q,.q,.q,.q,.q,.q,.q,.q] (by kernel_rfl) ?_;simp only[go_sem,ax,getD_map az hi,hi,az,getD_map aN hlt,hlt,aN,getD_map aN adj,adj];refine aJ (λh8=>?_) (λh8=>?_)<;>simp only[go_sem,ax,getD_map az hi,hi,az,getD_map aN hlt,hlt,aN,getD_map aN adj,adj]
         ·have e5:f x=5:=by rw[e];unfold tL;rw[if_neg (by rw[h7];decide),if_pos (ri (p:=λz:Attr=>decide (z.name=((aR t i).getD x default).name)) hlty hx h8)]
          rw[wm hsx hlt hq (by rw[e5];decide),e5]
         ·exact cC (y+1) ⟨hlty,th hqy h8⟩ (by omega) (by rw[bX hlty (by omega)];exact cJ)
        ·have aBU:x<=y:=by simpa using yP
         have e6:f x=yD ((aR t i).getD x default):=by rw[e];unfold tL;rw[if_neg (by rw[h7];decide),if_neg (by rw[nr (p:=λz:Attr=>decide (z.name=((aR t i).getD x default).name)) hx λj hj=>hqy j (by omega)];decide)]
         simp only[go_sem,ax,getD_map az hi,hi,az,getD_map aN hlt,hlt,aN];refine aU (agO ((aR t i).getD x default) hA) (by simp only[go_sem,ax,getD_map az hi,hi,az,getD_map aN hlt,hlt,aN]<;>rfl) (cF rfl) ?_;simp only[go_sem,ax,getD_map az hi,hi,az,getD_map aN hlt,hlt,aN];rw[<-e6];refine aV (λh9=>?_) (λh9=>?_)<;>simp only[go_sem,ax,getD_map az hi,hi,az,getD_map aN hlt,hlt,aN]
         ·have h9':=bY h9;exact cC (x+1) ⟨⟨by omega,hlt⟩,λj hj hj'=>by
           rcases Nat.lt_succ_iff_lt_or_eq.1 hj' with h|h
           ·exact hq j hj h
           ·rw[h];exact h9'⟩ (by omega) (by rw[bX hlt (by omega)];exact cJ)
         ·have h9':=dm h9;rw[wm hsx hlt hq h9']
       ·have e2:f x=2:=by rw[e];unfold tL;rw[if_pos h7]
        rw[wm hsx hlt hq (by rw[e2];decide),e2]
      ·have hge:(aR t i).length<=x:=by have:=dm hc;omega
       simp only[go_sem,ax,getD_map az hi,hi,az];rw[zT λj hj hj'=>hq j hj (by omega)]
   ·simp only[Bool.and_eq_false_iff,decide_eq_false_iff_not] at h3;rw[if_pos (by omega)]
 ·unfold lW;rw[if_pos h1]
def vI(l:List Int)(i:Nat):List Int:=(List.range l.length).map λk=>if k<i\/l.length-1-i<k then l.getD (l.length-1-k) default else l.getD k default
theorem acf(l:List Int)(i:Nat):(vI l i).length=l.length:=by simp[vI]
theorem ar2(l:List Int):vI l 0=l:=by
 apply List.ext_getElem
 ·simp[vI]
 ·intro k h1 h2;simp only[vI,List.getElem_map,List.getElem_range,Nat.not_lt_zero,false_or,Nat.sub_zero];rw[if_neg (by omega)];simp[h2]
theorem avs(l:List Int)(i:Nat)(h:l.length<=2 * i+1):vI l i=l.reverse:=by
 apply List.ext_getElem
 ·simp[vI]
 ·intro k h1 h2;have hk:k<l.length:=by simpa using h2
  simp only[vI,List.getElem_map,List.getElem_range,List.getElem_reverse];have h3:l.length-1-k<l.length:=by omega
  split
  ·simp[h3]
  ·have e:k=l.length-1-k:=by omega
   have:l[l.length-1-k]=l[k]:=by congr 1;omega
   rw[this];simp[hk]
theorem apH(l:List Int)(i k:Nat)(hk:k<l.length):(vI l i).getD k default=if k<i\/l.length-1-i<k then l.getD (l.length-1-k) default else l.getD k default:=by simp only[vI,List.getD_eq_getElem?_getD,List.getElem?_map,List.getElem?_range hk,Option.map_some,Option.getD_some]
theorem ar3(l:List Int)(i:Nat)(h:2 * i+1<l.length):((vI l i).set i (l.getD (l.length-1-i) default)).set (l.length-1-i) (l.getD i default)=vI l (i+1):=by
 apply List.ext_getElem
 ·simp[vI]
 ·intro k h1 h2;have hk:k<l.length:=by simpa[vI] using h2
  simp only[List.getElem_set,vI,List.getElem_map,List.getElem_range];split
  ·rename_i e;rw[if_pos (by omega)];congr 1;omega
  ·split
   ·rename_i e;rw[if_pos (by omega),e]
   ·by_cases h3:k<i\/l.length-1-i<k
    ·rw[if_pos h3,if_pos (by omega)]
    ·rw[if_neg h3,if_neg (by omega)]
theorem acg(l:List Int)(k:Nat)(y:Int):(l.map encI).set k [PV.val (.int .i64 y)]=(l.set k y).map encI:=by rw[List.map_set];try rfl
theorem aoo(l:List Int)(hl:l.length<=1000000)(v:Nat):pH pw 412 v 3 1 (l.map encI) [] (λa c=>a = .dg []/\c=some (.row v 3 1 (l.reverse.map encI))):=by
 refine akp [] Ty.mixed func412 rfl (by kernel_rfl) (by simp[ntmps412]) ?_;rw[ntmps412,results412];simp only[go_sem];have hw:i64.wrap ((l.length:Int)-1)=(l.length:Int)-1:=IntWalk.i64_in _ (by omega);rw[hw];refine ck (σ:=Nat) (λx=>(cD (cD (cD gU 0 (.row 1000000 v)) 2 (.p (.val (.int .i64 x)))) 3 (.p (.val (.int .i64 ((l.length:Int)-1-x)))))) (λx=>(bh cv 1000000 (.row v 3 1 ((vI l x).map encI))))
  (λx=>2 * x<=l.length+1) (λx=>l.length-2 * x) 0 (by omega) ?_ ?_
 ·rw[ar2];exact cJ
 rintro x hx;simp only[go_sem];refine aJ (λhc=>?_) (λhc=>?_)
 ·have yP:=bY hc;have hx1:x<l.length:=by omega
  have hj1:((l.length:Int)-1-x).toNat=l.length-1-x:=by omega
  have hj2:l.length-1-x<l.length:=by omega
  have hlx:x<(vI l x).length:=by rw[acf];exact hx1
  have hlj:l.length-1-x<(vI l x).length:=by rw[acf];exact hj2
  have hv1:(vI l x).getD (l.length-1-x) default=l.getD (l.length-1-x) default:=by rw[apH l x _ hj2,if_neg (by omega)]
  have hv2:(vI l x).getD x default=l.getD x default:=by rw[apH l x _ hx1,if_neg (by omega)]
  have aBV:l.length-1-x<((vI l x).set x (l.getD (l.length-1-x) default)).length:=by rw[List.length_set];exact hlj
  simp only[go_sem,hv1,hv2,acg,getD_map encI aBV,hj1,getD_map encI hlx,getD_map encI hlj,encI,acf,List.length_set];refine jh [.q,.q,.p,.p,.q,.q,.q,.q,.q,.q,.q,.q,.q,.w,.q,.w] (by kernel_rfl) ?_;simp only[go_sem,hv1,hv2,acg,getD_map encI aBV,hj1,getD_map encI hlx,getD_map encI hlj,encI,acf,List.length_set];refine⟨by omega,hj2,hx1,hx1,hx1,hx1,by omega,hj2,?_⟩;rw[ar3 l x (by omega),bX (show x<l.length from hx1) (by omega)];have hw2:i64.wrap ((l.length:Int)-1-x-1)=(l.length:Int)-1-((x+1:Nat):Int):=by rw[IntWalk.i64_in _ (by omega)];omega
  rw[hw2];exact cC (x+1) (by omega) (by omega) cJ
 ·have yP:=dm hc;simp only[go_sem];rw[avs l x (by omega)]
theorem avt(l:List Int):∀x∈l.map encI,x.length=1:=by intro x hx;obtain⟨a,_,rfl⟩:=List.mem_map.1 hx;rfl
theorem ar4(l:List Int)(hl:l.length<=1000000):aZ pw 73 [.aE (l.map encI)] (λr=>r = .row 3 1 (l.map encI)):=by
 by_cases h0:l=[]
 ·subst h0;refine aZ.xy (by kernel_rfl) λao cap=>?_
  refine bl [5] func73 ?_;rw[ntmps73,results73];simp only[go_sem];cases ao with
  |none=>simp only[go_sem];exact⟨by decide,_,.nil _ _ (by decide),rfl⟩
  |some a=>simp only[go_sem];exact⟨λ_ h=>h.elim,by decide,_,.refl _,rfl⟩
 ·have hne:l.map encI≠[]:=by simpa using h0
  refine bl [5] func73 ?_;rw[ntmps73,results73];simp only[go_sem,hne];exact⟨⟨by omega,avt l⟩,by decide,_,.refl _,rfl⟩
theorem alz(l:List ByteArray):∀x∈l.map encS,x.length=1:=by intro x hx;obtain⟨a,_,rfl⟩:=List.mem_map.1 hx;rfl
theorem ar5(l:List ByteArray)(hl:l.length<=1000000):aZ pw 338 [.aE (l.map encS)] (λr=>r = .row 9 1 (l.map encS)):=by
 by_cases h0:l=[]
 ·subst h0;refine aZ.xy (by kernel_rfl) λao cap=>?_
  refine bl [5] func338 ?_;rw[ntmps338,results338];simp only[go_sem];cases ao with
  |none=>simp only[go_sem];exact⟨by decide,_,.nil _ _ (by decide),rfl⟩
  |some a=>simp only[go_sem];exact⟨λ_ h=>h.elim,by decide,_,.refl _,rfl⟩
 ·have hne:l.map encS≠[]:=by simpa using h0
  refine bl [5] func338 ?_;rw[ntmps338,results338];simp only[go_sem,hne];exact⟨⟨by omega,alz l⟩,by decide,_,.refl _,rfl⟩
theorem alA(l:List Edge):∀x∈l.map ay,x.length=3:=by intro x hx;obtain⟨a,_,rfl⟩:=List.mem_map.1 hx;rfl
theorem aop(l:List Edge)(hl:l.length<=1000000):aZ pw 74 [.aE (l.map ay)] (λr=>r = .row 165 3 (l.map ay)):=by
 by_cases h0:l=[]
 ·subst h0;refine aZ.xy (by kernel_rfl) λao cap=>?_
  refine bl [5] func74 ?_;rw[ntmps74,results74];simp only[go_sem];cases ao with
  |none=>simp only[go_sem];exact⟨by decide,_,.nil _ _ (by decide),rfl⟩
  |some a=>simp only[go_sem];exact⟨λ_ h=>h.elim,by decide,_,.refl _,rfl⟩
 ·have hne:l.map ay≠[]:=by simpa using h0
  refine bl [5] func74 ?_;rw[ntmps74,results74];simp only[go_sem,hne];exact⟨⟨by omega,alA l⟩,by decide,_,.refl _,rfl⟩
theorem avu(t:Types)(hf:jB t)(i:Nat)(hi:i<t.ag.length):aB pw 123 [ax t,.val (.int .i64 i)] (λr=>r = .val (.int .i64 (nZ t i))):=by
 have hn:=hf.ag;have hn':=hf.nodes;refine aC [] func123 ?_;rw[ntmps123,results123];simp only[go_sem,ax,getD_map aA hi,hi,aA];refine aU (tH (t.ag.getD i default).name (Nat.le_trans (hf.azC _ (gF hi)) (by decide))) (by simp only[go_sem,ax,getD_map aA hi,hi,aA]<;>rfl) (cF rfl) ?_;simp only[go_sem,ax,getD_map aA hi,hi,aA];refine aV (λh1=>?_) (λh1=>?_)<;>simp only[go_sem,ax,getD_map aA hi,hi,aA]
 ·refine ck (σ:=Nat) (λx=>(cD (cD (cD (cD gU 1 (.p (.val (.int .i64 i)))) 2 (.ptr 2 0)) 5 (.ptr 5 0)) 6 (.p (.val (.int .i64 x)))))
   (λx=>(bh (bh cv 2 (.box [.p (.aE (t.nodes.map az)),.p (.aE (t.ag.map aA))])) 5 (.box [.p (.val (.string (t.ag.getD i default).name)),.p (.val (.int .i64 (t.ag.getD i default).src)),.p (.val (.int .i64 (t.ag.getD i default).dst)),.p (.val (.int .i64 (t.ag.getD i default).vE)),.p (.val (.int .i64 (t.ag.getD i default).qY)),.p (.val (.int .i64 (t.ag.getD i default).aa6)),.p (.val (.int .i64 (t.ag.getD i default).vF))])))
   (λx=>x<=i/\∀j,j<x->decide ((t.ag.getD j default).name=(t.ag.getD i default).name)=false) (λx=>i-x) 0 ⟨Nat.zero_le _,λj hj=>absurd hj (Nat.not_lt_zero j)⟩ cJ ?_
  rintro x ⟨hx,hqx⟩;simp only[go_sem,ax,getD_map aA hi,hi,aA];refine aJ (λhc=>?_) (λhc=>?_)
  ·have aon:x<i:=by simpa using hc
   have hxl:x<t.ag.length:=by omega
   simp only[go_sem,ax,getD_map aA hi,hi,aA,getD_map aA hxl,hxl];refine jh [.q,.q,.q,.q,.q,.q,.q,.q,.q] (by kernel_rfl) ?_;simp only[go_sem,ax,getD_map aA hi,hi,aA,getD_map aA hxl,hxl];refine aJ (λh2=>?_) (λh2=>?_)<;>simp only[go_sem,ax,getD_map aA hi,hi,aA,getD_map aA hxl,hxl]
   ·have:nZ t i=5:=by unfold nZ;rw[if_neg (by rw[h1];decide),if_pos (ri (p:=λy:sA=>decide (y.name=(t.ag.getD i default).name)) aon (by omega) h2)]
    rw[this]
   ·exact cC (x+1) ⟨aon,th hqx h2⟩ (by omega) (by rw[bX aon (by omega)];exact cJ)
  ·have hge:i<=x:=by simpa using hc
   have akY:=nr (p:=λy:sA=>decide (y.name=(t.ag.getD i default).name)) (Nat.le_of_lt hi) λj hj=>hqx j (by omega)
   have e1:nZ t i=if ((inB t (t.ag.getD i default).src&&inB t (t.ag.getD i default).dst)&&(vG (t.ag.getD i default).vE (t.ag.getD i default).qY&&vG (t.ag.getD i default).aa6 (t.ag.getD i default).vF))=true then 0 else 6:=by unfold nZ;rw[if_neg (by rw[h1];decide),if_neg (by rw[akY];decide)]
   rw[e1];clear e1;have hw:i64.wrap ((t.nodes.length:Int)-1)=(t.nodes.length:Int)-1:=IntWalk.i64_in _ (by omega);have hin:∀n:Int,(decide (0<=n)&&decide (n<=(t.nodes.length:Int)-1))=inB t n:=λn=>by unfold inB;congr 1;rw[decide_eq_decide];omega
   simp only[go_sem,ax,getD_map aA hi,hi,aA,hw];refine aU (aa7 (t.ag.getD i default).src 0 ((t.nodes.length:Int)-1)) (by simp only[go_sem,ax,getD_map aA hi,hi,aA,hw]<;>rfl) (cF rfl) ?_;simp only[go_sem,hin,ax,getD_map aA hi,hi,aA,hw];refine bA (λh3=>?_) (λh3=>?_)<;>simp only[go_sem,h3,ax,getD_map aA hi,hi,aA,hw]
   refine aU (aa7 (t.ag.getD i default).dst 0 ((t.nodes.length:Int)-1)) (by simp only[go_sem,ax,getD_map aA hi,hi,aA,hw]<;>rfl) (cF rfl) ?_;simp only[go_sem,hin,h3,ax,getD_map aA hi,hi,aA,hw];refine bA (λh4=>?_) (λh4=>?_)<;>simp only[go_sem,h4,ax,getD_map aA hi,hi,aA,hw]
   refine aU (alq (t.ag.getD i default).vE (t.ag.getD i default).qY) (by simp only[go_sem,ax,getD_map aA hi,hi,aA,hw]<;>rfl) (cF rfl) ?_;simp only[go_sem,ax,getD_map aA hi,hi,aA,hw];refine bA (λh5=>?_) (λh5=>?_)<;>simp only[go_sem,h5,ax,getD_map aA hi,hi,aA,hw]
   refine aU (alq (t.ag.getD i default).aa6 (t.ag.getD i default).vF) (by simp only[go_sem,ax,getD_map aA hi,hi,aA,hw]<;>rfl) (cF rfl) ?_;simp only[go_sem,ax,getD_map aA hi,hi,aA,hw];refine aV (λh6=>?_) (λh6=>?_)<;>simp only[go_sem,h6,ax,getD_map aA hi,hi,aA,hw]
 ·unfold nZ;rw[if_pos h1]
theorem ahu(t:Types)(hf:jB t):aB pw 56 [ax t] (λr=>r = .dg [.val (.string (cZ t).1),.val (.int .i64 (cZ t).2)]):=by
 have hn:=hf.nodes;have hm:=hf.ag;refine aC [] func56 ?_;rw[ntmps56,results56];simp only[go_sem,ax];refine aJ (λh1=>?_) (λh1=>?_)<;>simp only[go_sem,ax]
 ·have yB:=bY h1;unfold cZ;rw[if_pos (by omega)];exact⟨rfl,rfl⟩
 ·have yB:=dm h1;have hN:t.nodes.length≠0:=by omega
  have big:12<t.nodes.length\/20<t.ag.length->cZ t=(⟨#[]⟩,3):=λh=>by unfold cZ;rw[if_neg hN,if_pos h]
  refine bJ (λh2=>?_) (λh2=>?_)<;>simp only[go_sem,h2,ax]
  ·have h2':=bY h2;rw[big (by omega)];exact⟨rfl,rfl⟩
  ·have h2':=dm h2;refine aJ (λh3=>?_) (λh3=>?_)<;>simp only[go_sem,ax]
   ·have h3':=bY h3;rw[big (by omega)];exact⟨rfl,rfl⟩
   ·have h3':=dm h3
    have hV : cZ t = match kQ (lW t) 0 t.nodes.length with
      |some k=>((t.nodes.getD k default).name,lW t k)
      |none=>match kQ (nZ t) 0 t.ag.length with
       |some k=>((t.ag.getD k default).name,nZ t k)
       |none=>(⟨#[]⟩,0):=by unfold cZ;rw[if_neg hN,if_neg (by omega)];try rfl
    clear big;refine ck (σ:=Nat) (λx=>(cD (cD gU 1 (.ptr 1 0)) 4 (.p (.val (.int .i64 x)))))
     (λx=>(bh cv 1 (.box [.p (.aE (t.nodes.map az)),.p (.aE (t.ag.map aA))])))
     (λx=>x<=t.nodes.length/\∀j,j<x->lW t j=0) (λx=>t.nodes.length-x) 0 ⟨Nat.zero_le _,λj hj=>absurd hj (Nat.not_lt_zero j)⟩ cJ ?_
    rintro x ⟨hx,hq⟩;simp only[go_sem,ax];refine aJ (λhc=>?_) (λhc=>?_)
    ·have hlt:x<t.nodes.length:=by simpa using hc
     simp only[go_sem,ax,getD_map az hlt,hlt,az];refine aU (avr t hf x hlt (afA hq)) (by simp only[go_sem,ax,getD_map az hlt,hlt,az]<;>rfl) (cF rfl) ?_;simp only[go_sem,ax,getD_map az hlt,hlt,az];refine aV (λh4=>?_) (λh4=>?_)<;>simp only[go_sem,ax,getD_map az hlt,hlt,az]
     ·have h4':=bY h4;exact cC (x+1) ⟨hlt,all_succ hq h4'⟩ (by omega) (by rw[bX hlt (by omega)];exact cJ)
     ·have h4':=dm h4;rw[hV,oU (Nat.zero_le _) hlt (λj _=>hq j) h4'];exact⟨rfl,rfl⟩
    ·have hge:t.nodes.length<=x:=by simpa using hc
     have hN0:kQ (lW t) 0 t.nodes.length=none:=kH λj _ hj=>hq j (by omega)
     rw[hN0] at hV;simp only[] at hV;simp only[go_sem,ax];refine ck (σ:=Nat) (λx=>(cD (cD gU 1 (.ptr 1 0)) 6 (.p (.val (.int .i64 x)))))
      (λx=>(bh cv 1 (.box [.p (.aE (t.nodes.map az)),.p (.aE (t.ag.map aA))])))
      (λx=>x<=t.ag.length/\∀j,j<x->nZ t j=0) (λx=>t.ag.length-x) 0 ⟨Nat.zero_le _,λj hj=>absurd hj (Nat.not_lt_zero j)⟩ cJ ?_
     rintro y ⟨hy,hq'⟩;simp only[go_sem,ax];refine aJ (λyP=>?_) (λyP=>?_)
     ·have hlt:y<t.ag.length:=by simpa using yP
      simp only[go_sem,ax,getD_map aA hlt,hlt,aA];refine aU (avu t hf y hlt) (by simp only[go_sem,ax,getD_map aA hlt,hlt,aA]<;>rfl) (cF rfl) ?_;simp only[go_sem,ax,getD_map aA hlt,hlt,aA];refine aV (λh4=>?_) (λh4=>?_)<;>simp only[go_sem,ax,getD_map aA hlt,hlt,aA]
      ·have h4':=bY h4;exact cC (y+1) ⟨hlt,all_succ hq' h4'⟩ (by omega) (by rw[bX hlt (by omega)];exact cJ)
      ·have h4':=dm h4;rw[hV,oU (Nat.zero_le _) hlt (λj _=>hq' j) h4'];exact⟨rfl,rfl⟩
     ·have hge:t.ag.length<=y:=by simpa using yP
      simp only[go_sem,ax];rw[hV,kH λj _ hj=>hq' j (by omega)];exact⟨rfl,rfl⟩
theorem adY{f:Nat->Int}{s n k:Nat}(h:kQ f s n=some k):f k≠0:=by unfold kQ at h;have:=List.find?_some h;simpa using this
theorem afD{f:Nat->Int}{n:Nat}(h:kQ f 0 n=none):∀j,j<n->f j=0:=by intro j hj;unfold kQ at h;rw[List.find?_eq_none] at h;have:=h j (by rw[List.mem_range'_1];omega);simpa using this
structure yQ(t:Types):Prop where
 few:jB t
 pos:0<t.nodes.length
 n12:t.nodes.length<=12
 m20:t.ag.length<=20
 node:∀j,j<t.nodes.length->lW t j=0
 oK:∀j,j<t.ag.length->nZ t j=0
theorem xB{t:Types}(hf:jB t)(h:(cZ t).2=0):yQ t:=by
 unfold cZ at h;split at h
 ·cases h
 ·split at h
  ·cases h
  ·split at h
   ·rename_i hk;exact absurd h (adY hk)
   ·split at h
    ·rename_i hk;exact absurd h (adY hk)
    ·rename_i h1 h2 _ h3 _ h4;exact⟨hf,by omega,by omega,by omega,afD h3,afD h4⟩
theorem yQ.par{t:Types}(h:yQ t):qp t t.nodes.length:=afA h.node
theorem yQ.par'{t:Types}(h:yQ t){a:Nat}(ha:a<t.nodes.length):qp t (a+1):=λj hj=>h.par j (by omega)
theorem yQ.ends{t:Types}(h:yQ t){i:Nat}(hi:i<t.ag.length):inB t (t.ag.getD i default).src=true/\inB t (t.ag.getD i default).dst=true:=by
 have:=h.oK i hi;unfold nZ at this;split at this
 ·cases this
 ·split at this
  ·cases this
  ·split at this
   ·rename_i h1;simp only[Bool.and_eq_true] at h1;exact h1.1
   ·cases this
theorem ach{t:Types}{n:Int} : inB t n=true↔0<=n/\n<t.nodes.length:=by unfold inB;simp only[Bool.and_eq_true,decide_eq_true_eq]
def upK(t:Types):Nat->Int->List Int
 |0,_=>[]
 |k+1,a=>if a<0 then [] else a :: upK t k (t.nodes.getD a.toNat default).parent
def upL(t:Types)(a:Int):List Int:=upK t (a.toNat+1) a
def isB(t:Types)(a b:Int):Bool:=(upL t a).any λx=>decide (x=b)
theorem ajb{t:Types}{a:Int}(h:a<0):upL t a=[]:=by unfold upL upK;rw[if_pos h]
theorem alB{t:Types} : ∀ (k k':Nat) (a:Int),(∀j:Nat,(j:Int)<=a->-1<=(t.nodes.getD j default).parent/\(t.nodes.getD j default).parent<j)->a<k->a<k'->0<k->0<k'->upK t k a=upK t k' a
 |0,_,_,_,_,_,h,_=>by omega
 |_+1,0,_,_,_,_,_,h=>by omega
 |k+1,k'+1,a,hp,h,h',_,_=>by
  unfold upK;split
  ·rfl
  ·rename_i h0;have hq:=hp a.toNat (by omega);congr 1;cases k with
   |zero =>
    cases k' with
    |zero=>rfl
    |succ k' =>
     have:(t.nodes.getD a.toNat default).parent<0:=by omega
     unfold upK;rw[if_pos this]
   |succ k =>
    cases k' with
    |zero =>
     have:(t.nodes.getD a.toNat default).parent<0:=by omega
     unfold upK;rw[if_pos this]
    |succ k'=>exact alB (k+1) (k'+1) _ (λj hj=>hp j (by omega)) (by omega) (by omega) (by omega) (by omega)
theorem alC{t:Types}{a:Nat}(hp:qp t (a+1)):upL t a=(a:Int) :: upL t (t.nodes.getD a default).parent:=by
 have hq:=hp a (by omega);have e:upL t a=(a:Int) :: upK t a (t.nodes.getD a default).parent:=by
  unfold upL;rw[Int.toNat_natCast]
  conv=>lhs;unfold upK
  rw[if_neg (by omega),Int.toNat_natCast]
 rw[e];congr 1;by_cases h0:(t.nodes.getD a default).parent<0
 ·rw[ajb h0];cases a with
  |zero=>rfl
  |succ a=>unfold upK;rw[if_pos h0]
 ·unfold upL;exact alB _ _ _ (λj hj=>hp j (by omega)) (by omega) (by omega) (by omega) (by omega)
theorem apI{t:Types}{a b:Int}(h:a<0):isB t a b=false:=by unfold isB;rw[ajb h];try rfl
theorem alD{t:Types}{a:Nat}(hp:qp t (a+1))(b:Int):isB t a b=(decide ((a:Int)=b)||isB t (t.nodes.getD a default).parent b):=by unfold isB;rw[alC hp];try rfl
def rW(t:Types)(l:List Int):Int:=if (cZ t).2≠0 then (cZ t).2 else if l.any (λa=>!inB t a)=true then 6 else 0
theorem ahv(t:Types)(b:Int)(hb:0<=b)(hf:jB t):∀ (n:Nat) (a:Int),a<n->-1<=a->a<t.nodes.length->qp t t.nodes.length->aB pw 167 [ax t,.val (.int .i64 a),.val (.int .i64 b)] (λr=>r = .val (.bool (isB t a b))):=by
 intro n
 induction n with
 |zero =>
  intro a hn ha hl hp;rw[apI (by omega)];refine aC [] func167 ?_;rw[ntmps167,results167];simp only[go_sem,ax];refine jh [.q,.q,.q,.q,.q,.q,.q,.q,.q,.q,.q,.q,.q,.q,.q,.q,.q,.q,.q] (by kernel_rfl) ?_;simp only[go_sem];refine qZ (λh1=>?_) (λh1=>?_)<;>simp only[go_sem,h1]
  ·have:=bY h1;omega
  ·refine nS (λh2=>?_) (λh2=>?_)<;>simp only[go_sem,h1,h2]
   have:=bY h2;omega
 |succ n ih =>
  intro a hn ha hl hp;refine aC [] func167 ?_;rw[ntmps167,results167];simp only[go_sem,ax];refine jh [.q,.q,.q,.q,.q,.q,.q,.q,.q,.q,.q,.q,.q,.q,.q,.q,.q,.q,.q] (by kernel_rfl) ?_;simp only[go_sem,ax];refine qZ (λh1=>?_) (λh1=>?_)<;>simp only[go_sem,h1,ax]
  ·have yB:=bY h1;subst yB;obtain⟨q,rfl⟩:∃q:Nat,a=q:=⟨_,(Int.toNat_of_nonneg hb).symm⟩;rw[alD (λj hj=>hp j (by omega))];simp
  ·have yB:=dm h1;refine nS (λh2=>?_) (λh2=>?_)<;>simp only[go_sem,h1,h2,ax]
   ·have h2':=bY h2;obtain⟨q,rfl⟩:∃q:Nat,a=q:=⟨_,(Int.toNat_of_nonneg h2').symm⟩;have hq:q<t.nodes.length:=by omega
    have hpq:=hp q hq;simp only[go_sem,ax,getD_map az hq,hq,az];refine nk (ih (t.nodes.getD q default).parent (by omega) hpq.1 (by omega) hp) (by simp only[go_sem,ax,getD_map az hq,hq,az]<;>rfl) (cF rfl) ?_;simp only[go_sem,h1,h2,ax,getD_map az hq,hq,az];rw[alD (λj hj=>hp j (by omega)),h1,Bool.false_or]
   ·have h2':=dm h2;rw[apI (by omega)]
theorem ar6(t:Types)(n:Int):aB pw 378 [.val (.int .i64 n),.fq [.aE (t.nodes.map az),.aE (t.ag.map aA)] 0] (λr=>r = .val (.bool (!inB t n))):=by
 refine aC [] func378 ?_;rw[ntmps378,results378];simp only[go_sem];unfold inB
 repeat' first|done|(refine bJ (λh=>?_) (λh=>?_)<;>try simp only[go_sem,h])|(refine bA (λh=>?_) (λh=>?_)<;>try simp only[go_sem,h])|(refine aV (λh=>?_) (λh=>?_)<;>try simp only[go_sem,h])|(refine aJ (λh=>?_) (λh=>?_)<;>try simp only[go_sem,h])
 all_goals(simp only[decide_eq_true_eq,decide_eq_false_iff_not,Bool.not_eq_true',Bool.not_eq_false'] at *;rw[Bool.eq_iff_iff];simp only[Bool.not_eq_true',Bool.not_eq_false',Bool.and_eq_true,Bool.or_eq_true,Bool.and_eq_false_iff,Bool.or_eq_false_iff,decide_eq_true_eq,decide_eq_false_iff_not,Bool.false_eq_true,true_iff,iff_true,false_iff,iff_false];omega)
theorem afE(t:Types)(hf:jB t)(l:List Int)(hl:l.length<=1000000):aB pw 326 [ax t,.aE (l.map encI)] (λr=>r = .val (.int .i64 (rW t l))):=by
 unfold rW;refine aC [] func326 ?_;rw[ntmps326,results326];simp only[go_sem,ax];refine aU (afB t hf) (by simp only[go_sem,ax]<;>rfl) (cF rfl) ?_;simp only[go_sem,ax];refine aV (λh1=>?_) (λh1=>?_)<;>simp only[go_sem,ax]
 ·have yB:=bY h1;rw[if_neg (by rw[yB];decide)];refine aU (acd (λa=>!inB t a) l hl _ [] [.fq [.aE (t.nodes.map az),.aE (t.ag.map aA)] 0] (λy _=>ar6 t y)) (by simp only[go_sem,ax]<;>rfl) (cF rfl) ?_;simp only[go_sem,ax];refine aJ (λh2=>?_) (λh2=>?_)<;>simp only[go_sem,ax]
  ·rw[if_pos h2]
  ·rw[if_neg (by rw[h2];decide)]
 ·have yB:=dm h1;rw[if_pos yB]
theorem ahw(t:Types)(hf:jB t)(a b:Int):aB pw 164 [ax t,.val (.int .i64 a),.val (.int .i64 b)] (λr=>r = .val (.int .i64 (rW t [a,b]))):=by
 have hn':=hf.nodes;have hw:i64.wrap ((t.nodes.length:Int)-1)=(t.nodes.length:Int)-1:=IntWalk.i64_in _ (by omega);have hin:∀n:Int,(decide (0<=n)&&decide (n<=(t.nodes.length:Int)-1))=inB t n:=λn=>by unfold inB;congr 1;rw[decide_eq_decide];omega
 unfold rW;refine aC [] func164 ?_;rw[ntmps164,results164];simp only[go_sem,ax];refine aU (ahu t hf) (by simp only[go_sem,ax]<;>rfl) (cF rfl) ?_;simp only[go_sem,ax];refine aV (λh1=>?_) (λh1=>?_)<;>simp only[go_sem,ax]
 ·have yB:=bY h1;rw[if_neg (by rw[yB];decide)];simp only[go_sem,hw,ax];refine aU (aa7 a 0 ((t.nodes.length:Int)-1)) (by simp only[go_sem,ax]<;>rfl) (cF rfl) ?_;simp only[go_sem,hin,ax];refine bA (λh2=>?_) (λh2=>?_)<;>simp only[go_sem,h2,hw,ax]
  case refine_2=>simp[h2]
  refine aU (aa7 b 0 ((t.nodes.length:Int)-1)) (by simp only[go_sem,ax]<;>rfl) (cF rfl) ?_;simp only[go_sem,hin,ax];refine aV (λh3=>?_) (λh3=>?_)<;>simp only[go_sem,h3,ax]
  all_goals simp[h2,h3]
 ·have yB:=dm h1;rw[if_pos yB]
theorem ayu(t:Types)(ht:yQ t)(a:Nat)(ha:a<t.nodes.length):aB pw 379 [ax t,.val (.int .i64 a)] (λr=>r = .aE ((upL t a).reverse.map encI)):=by
 have hn:=ht.n12;refine aC [] func379 ?_;rw[ntmps379,results379];simp only[go_sem,ax];refine ck (σ:=Int×List Int×Nat) (λx=>(cD (cD (cD gU 1 (.p (.val (.int .i64 x.1)))) 2 (.ptr 2 0)) 5 (.row 5 x.2.2)))
  (λx=>(bh (bh cv 2 (.box [.p (.aE (t.nodes.map az)),.p (.aE (t.ag.map aA))])) 5 (.row x.2.2 3 1 (x.2.1.map encI))))
  (λx=>(-1<=x.1/\x.1<t.nodes.length/\x.2.1.length+(x.1+1).toNat<=20)/\x.2.1++upL t x.1=upL t a) (λx=>(x.1+1).toNat) ((a:Int),[],0) ⟨⟨by omega,by omega,by simp;omega⟩,by simp⟩
  ((jg 5 5 3 1 rfl rfl (by decide)).trans cJ) ?_
 rintro⟨c,acc,v⟩ ⟨⟨h1,h2,h3⟩,h4⟩;simp only at h1 h2 h3 h4;simp only[go_sem];refine aJ (λhc=>?_) (λhc=>?_)
 ·have yP:=bY hc;obtain⟨q,rfl⟩:∃q:Nat,c=q:=⟨_,(Int.toNat_of_nonneg yP).symm⟩;have hq:q<t.nodes.length:=by omega
  have hpq:=ht.par q hq;simp only[go_sem,getD_map az hq,hq,az];refine⟨by omega,?_⟩;rw[alC (ht.par' hq)] at h4;generalize (t.nodes.getD q default).parent=par at hpq h4 ⊢;refine cC (par,acc++[(q:Int)],v+1) ⟨⟨by dsimp only;omega,by dsimp only;omega,by simp only[List.length_append,List.length_cons,List.length_nil];omega⟩,?_⟩ (by dsimp only;omega) ?_
  ·rw[<-h4,List.append_assoc];try rfl
  ·rw[List.map_append];exact cJ
 ·have yP:=dm hc;rw[ajb (by omega),List.append_nil] at h4;subst h4;simp only[go_sem];refine alm (aoo (upL t a) (by omega) v) (by simp only[go_sem]<;>rfl) (by simp only[go_sem]<;>rfl) (by simp only[go_sem]<;>rfl) (λh=>by cases h) ?_;simp only[go_sem]
theorem aoq(t:Types)(ht:yQ t)(a:Nat)(ha:a<t.nodes.length)(b:Int):aB pw 327 [ax t,.val (.int .i64 a),.val (.int .i64 b)] (λr=>r = .val (.bool (isB t a b))):=by
 have hl:∀n:Int,-1<=n->n<t.nodes.length->(upL t n).length<=n.toNat+1:=by
  intro n h1 h2;have:∀ (k:Nat) (n:Int),(upK t k n).length<=k:=by
   intro k
   induction k with
   |zero=>intro n;simp[upK]
   |succ k ih =>
    intro n;unfold upK;split
    ·simp
    ·simp only[List.length_cons];exact Nat.succ_le_succ (ih _)
  exact this _ _
 have hla:=hl a (by omega) (by omega);have hn:=ht.n12;refine aC [] func327 ?_;rw[ntmps327,results327];simp only[go_sem,ax];refine aU (ayu t ht a ha) (by simp only[go_sem]<;>rfl) (abB) ?_;simp only[go_sem];refine aU (ayj ((upL t a).reverse) b (by simp;omega)) (by simp only[go_sem]<;>rfl) (cF rfl) ?_;simp only[go_sem];unfold isB;rw[Bool.eq_iff_iff];simp only[List.any_eq_true,List.mem_reverse,decide_eq_true_eq];constructor
 ·rintro⟨x,h1,h2⟩;exact⟨x,h1,h2.symm⟩
 ·rintro⟨x,h1,h2⟩;exact⟨x,h1,h2.symm⟩
theorem ahx{t:Types}{a b:Int}(hf:jB t)(h:rW t [a,b]=0):yQ t/\(0<=a/\a<t.nodes.length)/\(0<=b/\b<t.nodes.length):=by
 unfold rW at h;split at h
 ·rename_i h1;exact absurd h h1
 ·rename_i h1;split at h
  ·cases h
  ·rename_i h2;refine⟨xB hf (Decidable.of_not_not h1),?_⟩;simp only[List.any_cons,List.any_nil,Bool.or_false,Bool.or_eq_true,Bool.not_eq_true',not_or,Bool.not_eq_false] at h2;exact⟨ach.1 h2.1,ach.1 h2.2⟩
def n7(t:Types)(e a b:Int):Bool:=decide (rW t [a,b]=0)&&((decide (0<=e)&&decide (e<t.ag.length))&&(isB t a (t.ag.getD e.toNat default).src&&isB t b (t.ag.getD e.toNat default).dst))
theorem apJ(t:Types)(hf:jB t)(e a b:Int):aB pw 251 [ax t,.val (.int .i64 e),.val (.int .i64 a),.val (.int .i64 b)] (λr=>r = .val (.bool (n7 t e a b))):=by
 refine aC [] func251 ?_;rw[ntmps251,results251];simp only[go_sem,ax];refine aU (afE t hf [a,b] (by simp)) (by simp only[go_sem,ax]<;>rfl) (cF rfl) ?_;simp only[go_sem,ax];refine bA (λh1=>?_) (λh1=>?_)<;>simp only[go_sem,h1,ax]
 ·have yB:=bY h1;obtain⟨ht,ha,hb⟩:=ahx hf yB;refine bJ (λh2=>?_) (λh2=>?_)<;>simp only[go_sem,h1,h2,ax]
  ·have h2':=bY h2;unfold n7;rw[jz (show ¬ 0<=e by omega)];simp
  ·have h2':=dm h2;refine aJ (λh3=>?_) (λh3=>?_)<;>simp only[go_sem,h1,h2,h3,ax]
   ·have h3':=bY h3;unfold n7;rw[jz (show ¬ e<t.ag.length by omega)];simp
   ·have h3':=dm h3;obtain⟨k,rfl⟩:∃k:Nat,e=k:=⟨_,(Int.toNat_of_nonneg (by omega)).symm⟩;obtain⟨x,rfl⟩:∃k:Nat,a=k:=⟨_,(Int.toNat_of_nonneg ha.1).symm⟩;obtain⟨y,rfl⟩:∃k:Nat,b=k:=⟨_,(Int.toNat_of_nonneg hb.1).symm⟩;have hk:k<t.ag.length:=by omega
    have e0:n7 t k x y=(isB t x (t.ag.getD k default).src&&isB t y (t.ag.getD k default).dst):=by unfold n7;rw[h1,c7 (show (0:Int)<=k by omega),c7 (show (k:Int)<t.ag.length by omega)];simp
    rw[e0];refine jh [.q,.q,.q,.q,.q,.q,.q,.q,.q,.q,.q,.q,.q,.q,.q,.q,.q,.q,.q,.q,.q] (by kernel_rfl) ?_;simp only[go_sem,ax,getD_map aA hk,hk,aA];refine nk (aoq t ht x (by omega) (t.ag.getD k default).src) (by simp only[go_sem,ax,getD_map aA hk,hk,aA]<;>rfl) (cF rfl) ?_;simp only[go_sem,ax,getD_map aA hk,hk,aA];refine nS (λh4=>?_) (λh4=>?_)<;>simp only[go_sem,h4,ax,getD_map aA hk,hk,aA]
    refine nk (aoq t ht y (by omega) (t.ag.getD k default).dst) (by simp only[go_sem,ax,getD_map aA hk,hk,aA]<;>rfl) (cF rfl) ?_;simp only[go_sem,h4,ax,getD_map aA hk,hk,aA]
 ·unfold n7;rw[h1];try rfl
theorem avv(t:Types)(hf:jB t)(e a b:Int):aB pw 99 [ax t,.val (.int .i64 e),.val (.int .i64 a),.val (.int .i64 b)] (λr=>r = .val (.bool (n7 t e a b))):=by
 have hm:=hf.ag;have hw:i64.wrap ((t.ag.length:Int)-1)=(t.ag.length:Int)-1:=IntWalk.i64_in _ (by omega);refine aC [] func99 ?_;rw[ntmps99,results99];simp only[go_sem,ax];refine aU (ahw t hf a b) (by simp only[go_sem,ax]<;>rfl) (cF rfl) ?_;simp only[go_sem,ax];refine bA (λh1=>?_) (λh1=>?_)<;>simp only[go_sem,h1,ax]
 ·have yB:=bY h1;obtain⟨ht,ha,hb⟩:=ahx hf yB;simp only[go_sem,hw,ax];refine aU (aa7 e 0 ((t.ag.length:Int)-1)) (by simp only[go_sem,ax]<;>rfl) (cF rfl) ?_;simp only[go_sem,h1,ax];refine aV (λh2=>?_) (λh2=>?_)<;>simp only[go_sem,h1,h2,ax]
  ·have h2':0<=e/\e<=(t.ag.length:Int)-1:=by simpa only[Bool.and_eq_true,decide_eq_true_eq] using h2
   obtain⟨k,rfl⟩:∃k:Nat,e=k:=⟨_,(Int.toNat_of_nonneg (by omega)).symm⟩;obtain⟨x,rfl⟩:∃k:Nat,a=k:=⟨_,(Int.toNat_of_nonneg ha.1).symm⟩;obtain⟨y,rfl⟩:∃k:Nat,b=k:=⟨_,(Int.toNat_of_nonneg hb.1).symm⟩;have hk:k<t.ag.length:=by omega
   have e0:n7 t k x y=(isB t x (t.ag.getD k default).src&&isB t y (t.ag.getD k default).dst):=by unfold n7;rw[h1,c7 (show (0:Int)<=k by omega),c7 (show (k:Int)<t.ag.length by omega)];simp
   rw[e0];have avw:=ht.ends hk;rw[ach,ach] at avw;refine jh [.q,.q,.q,.q,.q,.q,.q,.q,.q,.q,.q,.q,.q,.q,.q,.q,.q,.q,.q,.q,.q] (by kernel_rfl) ?_;simp only[go_sem,ax,getD_map aA hk,hk,aA];refine nk (ahv t (t.ag.getD k default).src avw.1.1 hf t.nodes.length x (by omega) (by omega) (by omega) ht.par) (by simp only[go_sem,ax,getD_map aA hk,hk,aA]<;>rfl) (cF rfl) ?_;simp only[go_sem,ax,getD_map aA hk,hk,aA];refine nS (λh4=>?_) (λh4=>?_)<;>simp only[go_sem,h4,ax,getD_map aA hk,hk,aA]
   refine nk (ahv t (t.ag.getD k default).dst avw.2.1 hf t.nodes.length y (by omega) (by omega) (by omega) ht.par) (by simp only[go_sem,ax,getD_map aA hk,hk,aA]<;>rfl) (cF rfl) ?_;simp only[go_sem,h4,ax,getD_map aA hk,hk,aA]
  ·unfold n7;rw[h1];by_cases h0:0<=e
   ·have:¬ e<t.ag.length:=by rw[c7 h0,Bool.true_and] at h2;have:=dm h2;omega
    rw[jz this];simp
   ·rw[jz h0];simp
 ·unfold n7;rw[h1];try rfl
theorem avx{α:Type} [Inhabited α](f:α->List PV){l:List α}{x:Nat}(h:x<l.length):(l.take x).map f++[f (l.getD x default)]=(l.take (x+1)).map f:=by rw[aft h,List.map_append];try rfl
theorem alE(l:List Attr){x:Nat}(hx:x<l.length):(l.map aN).set x [.val (.string (l.getD x default).name),.val (.int .i64 (l.getD x default).low),.val (.int .i64 (l.getD x default).high),.aE ((l.getD x default).names.map encS)]=l.map aN:=by
 have:[PV.val (.string (l.getD x default).name),.val (.int .i64 (l.getD x default).low),.val (.int .i64 (l.getD x default).high),.aE ((l.getD x default).names.map encS)]=aN (l.getD x default):=rfl;rw[this,<-List.map_set];congr 1;have h2:l.getD x default=l[x]:=by simp[hx]
 rw[h2];simp
theorem yQ.valid{t:Types}(ht:yQ t):(cZ t).2=0:=by unfold cZ;rw[if_neg (by have:=ht.pos;omega),if_neg (by have:=ht.n12;have:=ht.m20;omega),kH λj _ hj=>ht.node j hj];simp only[];rw[kH λj _ hj=>ht.oK j hj]
theorem yQ.given{t:Types}(ht:yQ t){l:List Int}(hl:∀a∈l,0<=a/\a<t.nodes.length):rW t l=0:=by unfold rW;rw[if_neg (by rw[ht.valid];decide),if_neg];simp only[List.any_eq_true,Bool.not_eq_true',not_exists,not_and,Bool.not_eq_false];exact λa ha=>ach.2 (hl a ha)
theorem ahy(t:Types)(ht:yQ t)(a:Nat)(ha:a<t.nodes.length):aB pw 263 [ax t,.val (.int .i64 a)] (λr=>r = .dg [.aE ((aR t a).map aN),.val (.int .i64 0)]):=by
 have hlen:=lV ht.few ha (ht.par' ha);have hg:rW t [(a:Int)]=0:=ht.given (by simp;omega);refine aC [] func263 ?_;rw[ntmps263,results263];simp only[go_sem,ax];refine aU (afE t ht.few [(a:Int)] (by simp)) (by simp only[go_sem]<;>rfl) (cF rfl) ?_;simp only[go_sem,hg];refine afr 18 (alx t ht.few a ha (ht.par' ha)) (by simp only[go_sem]<;>rfl) (aln) (by simp only[go_sem]) ?_;simp only[go_sem];refine ck (σ:=Nat) (λx=>(cD (cD (cD gU 7 (.row 18 0)) 20 (.p (.val (.int .i64 (aR t a).length)))) 21 (.p (.val (.int .i64 x)))))
  (λx=>(bh cv 18 (.row 0 185 4 ((aR t a).map aN))))
  (λx=>x<=(aR t a).length) (λx=>(aR t a).length-x) 0 (Nat.zero_le _) cJ ?_
 rintro x hx;simp only[go_sem];refine aJ (λhc=>?_) (λhc=>?_)
 ·have hlt:x<(aR t a).length:=by simpa using hc
  have hA:=ht.few.ayr ha (ht.par' ha) (gF hlt);have hn:=hA.names;simp only[go_sem,getD_map aN hlt,hlt,aN,cz];refine aU ((ar5 (((aR t a).getD x default).names) (by omega)).toL) (by simp only[go_sem,getD_map aN hlt,hlt,aN,cz]<;>rfl) (abB) ?_;simp only[go_sem,getD_map aN hlt,hlt,aN,cz];rw[alE _ hlt];exact cC (x+1) hlt (by omega) (by rw[bX hlt (by omega)];exact cJ)
 ·simp only[go_sem]
theorem aor(t:Types)(ht:yQ t)(a:Nat)(ha:a<t.nodes.length):aB pw 98 [ax t,.val (.int .i64 a)] (λr=>r = .dg [.aE ((aR t a).map aN),.val (.int .i64 0)]):=by
 have hlen:=lV ht.few ha (ht.par' ha);have hg:rW t [(a:Int),(a:Int)]=0:=ht.given (by simp;omega);refine aC [] func98 ?_;rw[ntmps98,results98];simp only[go_sem,ax];refine aU (ahw t ht.few (a:Int) (a:Int)) (by simp only[go_sem]<;>rfl) (cF rfl) ?_;simp only[go_sem,hg];refine aU ((aht t ht.few a ha (ht.par' ha)).toL) (by simp only[go_sem]<;>rfl) (abB) ?_;simp only[go_sem];refine ck (σ:=Nat) (λx=>(cD (cD (cD gU 7 (.row 7 x)) 8 (.p (.aE ((aR t a).map aN)))) 9 (.p (.val (.int .i64 x)))))
  (λx=>(bh cv 7 (.row x 185 4 (((aR t a).take x).map aN))))
  (λx=>x<=(aR t a).length) (λx=>(aR t a).length-x) 0 (Nat.zero_le _) ((jg 7 7 185 4 rfl rfl (by decide)).trans cJ) ?_
 rintro x hx;simp only[go_sem];refine aJ (λhc=>?_) (λhc=>?_)
 ·have hlt:x<(aR t a).length:=by simpa using hc
  have hA:=ht.few.ayr ha (ht.par' ha) (gF hlt);have hn:=hA.names;simp only[go_sem,getD_map aN hlt,hlt,aN,cz];have e:=avx aN hlt;simp only[aN,cz] at e;rw[e];refine⟨⟨by omega,alz _⟩,by simp;omega,?_⟩;exact cC (x+1) hlt (by omega) (by rw[bX hlt (by omega)];exact cJ)
 ·have hge:(aR t a).length<=x:=by simpa using hc
  simp only[go_sem];rw[List.take_of_length_le hge]
structure rD(g:au):Prop where
 nodes:g.nodes.length<=45
 ag:g.ag.length<=90
structure ajc(g:au):Prop where
 nodes:g.nodes.length<=1000
 ag:g.ag.length<=1000
theorem rD.big{g:au}(h:rD g):ajc g:=⟨by have:=h.nodes;omega,by have:=h.ag;omega⟩
def sB(n:Int):Bool:=decide (0<=n)&&decide (n<=99)
def tM(n:Nat)(e:Edge):Bool:=(sB e.type&&(decide (0<=e.src)&&decide (e.src<=(n:Int)-1)))&&(decide (0<=e.dst)&&decide (e.dst<=(n:Int)-1))
def cL(g:au):Int:=if 40<g.nodes.length\/80<g.ag.length then 3 else if g.nodes.any (λn=>!sB n)=true then 6 else if g.ag.any (λe=>!tM g.nodes.length e)=true then 6 else 0
structure rE(g:au):Prop where
 nodes:g.nodes.length<=40
 ag:g.ag.length<=80
 kind:∀i,i<g.nodes.length->0<=g.nodes.getD i default/\g.nodes.getD i default<=99
 oK:∀i,i<g.ag.length->(0<=(g.ag.getD i default).type/\(g.ag.getD i default).type<=99)/\(0<=(g.ag.getD i default).src/\(g.ag.getD i default).src<g.nodes.length)/\(0<=(g.ag.getD i default).dst/\(g.ag.getD i default).dst<g.nodes.length)
theorem okG{g:au}(h:cL g=0):rE g:=by
 unfold cL at h;split at h
 ·cases h
 ·split at h
  ·cases h
  ·split at h
   ·cases h
   ·rename_i h1 h2 h3;simp only[List.any_eq_true,not_exists,not_and,Bool.not_eq_true',Bool.not_eq_false] at h2 h3;refine⟨by omega,by omega,λi hi=>?_,λi hi=>?_⟩
    ·have:=h2 _ (gF hi);simpa only[sB,Bool.and_eq_true,decide_eq_true_eq] using this
    ·have:=h3 _ (gF hi);simp only[tM,sB,Bool.and_eq_true,decide_eq_true_eq] at this;omega
theorem avy(e:Edge)(n:Nat)(hn:n<=1000):aB pw 216 [.agg (ay e),.val (.int .i64 n)] (λr=>r = .val (.bool (tM n e))):=by
 have hw:i64.wrap ((n:Int)-1)=(n:Int)-1:=IntWalk.i64_in _ (by omega);unfold tM;refine aC [] func216 ?_;rw[ntmps216,results216];simp only[go_sem,ay,hw];refine aU (aaE e.type 99) (by simp only[go_sem,ay,hw]<;>rfl) (cF rfl) ?_;simp only[go_sem,ay,hw];have hk:(decide (0<=e.type)&&decide (e.type<=99))=sB e.type:=rfl;rw[hk];refine bA (λh1=>?_) (λh1=>?_)<;>simp only[go_sem,h1,ay,hw]
 refine aU (aaE e.src ((n:Int)-1)) (by simp only[go_sem,ay,hw]<;>rfl) (cF rfl) ?_;simp only[go_sem,ay,hw];generalize (decide (0<=e.src)&&decide (e.src<=(n:Int)-1))=b1;refine bA (λh2=>?_) (λh2=>?_)<;>simp only[go_sem,h2,ay,hw]
 refine aU (aaE e.dst ((n:Int)-1)) (by simp only[go_sem,ay,hw]<;>rfl) (cF rfl) ?_;simp only[go_sem,ay,hw]
theorem aos(n:Int):aB pw 212 [.val (.int .i64 n)] (λr=>r = .val (.bool (!sB n))):=by unfold sB;refine aC [] func212 ?_;rw[ntmps212,results212];simp only[go_sem];refine aU (aaE n 99) (by simp only[go_sem]<;>rfl) (cF rfl) ?_;simp only[go_sem]
theorem aot(g:au)(hg:ajc g)(e:Edge):aB pw 215 [.agg (ay e),.fq [bR g.nodes,.aE (g.ag.map ay)] 0] (λr=>r = .val (.bool (!tM g.nodes.length e))):=by refine aC [] func215 ?_;rw[ntmps215,results215];simp only[go_sem,ay,bR];refine aU (avy e g.nodes.length hg.nodes) (by simp only[go_sem]<;>rfl) (cF rfl) ?_;simp only[go_sem]
theorem ahz(g:au)(hg:ajc g):aB pw 136 [dL g] (λr=>r = .val (.int .i64 (cL g))):=by
 have h1:=hg.nodes;have h2:=hg.ag;unfold cL;refine aC [] func136 ?_;rw[ntmps136,results136];simp only[go_sem,dL,bR];refine bJ (λh3=>?_) (λh3=>?_)<;>simp only[go_sem,h3,dL,bR]
 ·have h3':=bY h3;rw[if_pos (by omega)]
 ·have h3':=dm h3;refine aJ (λh4=>?_) (λh4=>?_)<;>simp only[go_sem,dL,bR]
  ·have h4':=bY h4;rw[if_pos (by omega)]
  ·have h4':=dm h4;rw[if_neg (by omega)];refine aU (acd (λn=>!sB n) g.nodes (by omega) _ [] [] (λy _=>aos y)) (by simp only[go_sem,dL,bR]<;>rfl) (cF rfl) ?_;simp only[go_sem,dL,bR];refine aJ (λh5=>?_) (λh5=>?_)<;>simp only[go_sem,dL,bR]
   ·rw[if_pos h5]
   ·rw[if_neg (by rw[h5];decide)];refine aU (agM (λe=>!tM g.nodes.length e) g.ag (by omega) _ [] [.fq [bR g.nodes,.aE (g.ag.map ay)] 0] (λy _=>aot g hg y)) (by simp only[go_sem,dL,bR]<;>rfl) (cF rfl) ?_;simp only[go_sem,dL,bR];refine aJ (λh6=>?_) (λh6=>?_)<;>simp only[go_sem,dL,bR]
    ·rw[if_pos h6]
    ·rw[if_neg (by rw[h6];decide)]
theorem alF(n:Int):aB pw 146 [.val (.int .i64 n)] (λr=>r = .val (.bool (sB n))):=by
 unfold sB;refine aC [] func146 ?_;rw[ntmps146,results146];simp only[go_sem]
 repeat' first|done|(refine bJ (λh=>?_) (λh=>?_)<;>try simp only[go_sem,h])|(refine bA (λh=>?_) (λh=>?_)<;>try simp only[go_sem,h])|(refine aV (λh=>?_) (λh=>?_)<;>try simp only[go_sem,h])|(refine aJ (λh=>?_) (λh=>?_)<;>try simp only[go_sem,h])
theorem ar7(e:Edge)(n:Nat):aB pw 147 [.agg (ay e),.val (.int .i64 n)] (λr=>r = .val (.bool (tM n e))):=by
 refine aC [] func147 ?_;rw[ntmps147,results147];simp only[go_sem,ay];refine aU (alF e.type) (by simp only[go_sem,ay]<;>rfl) (cF rfl) ?_;simp only[go_sem,ay];refine bA (λh1=>?_) (λh1=>?_)<;>simp only[go_sem,h1,ay]
 ·have e0:tM n e=((decide (0<=e.src)&&decide (e.src<=(n:Int)-1))&&(decide (0<=e.dst)&&decide (e.dst<=(n:Int)-1))):=by unfold tM;rw[h1,Bool.true_and]
  rw[e0]
  repeat' first|done|(refine bJ (λh=>?_) (λh=>?_)<;>try simp only[go_sem,h,h1,ay])|(refine bA (λh=>?_) (λh=>?_)<;>try simp only[go_sem,h,h1,ay])|(refine aV (λh=>?_) (λh=>?_)<;>try simp only[go_sem,h,h1,ay])|(refine aJ (λh=>?_) (λh=>?_)<;>try simp only[go_sem,h,h1,ay])
  all_goals(simp only[decide_eq_true_eq,decide_eq_false_iff_not,Bool.not_eq_true',Bool.not_eq_false'] at *;rw[Bool.eq_iff_iff];simp only[Bool.not_eq_true',Bool.not_eq_false',Bool.and_eq_true,Bool.or_eq_true,Bool.and_eq_false_iff,Bool.or_eq_false_iff,decide_eq_true_eq,decide_eq_false_iff_not,Bool.false_eq_true,true_iff,iff_true,false_iff,iff_false];omega)
 ·unfold tM;rw[h1];try rfl
theorem any_true{α:Type} [Inhabited α]{p:α->Bool}{l:List α}{j:Nat}(hj:j<l.length)(h:p (l.getD j default)=true):l.any p=true:=List.any_eq_true.2 ⟨_,gF hj,h⟩
theorem any_false{α:Type} [Inhabited α]{p:α->Bool}{l:List α}(h:∀j,j<l.length->p (l.getD j default)=false):l.any p=false:=by rw[<-List.take_length (l:=l)];exact nr (Nat.le_refl _) h
theorem aou(g:au)(hg:ajc g):aB pw 86 [dL g] (λr=>r = .val (.int .i64 (cL g))):=by
 have h1:=hg.nodes;have h2:=hg.ag;unfold cL;refine aC [] func86 ?_;rw[ntmps86,results86];simp only[go_sem,dL,bR];refine bJ (λh3=>?_) (λh3=>?_)<;>simp only[go_sem,h3,dL,bR]
 ·have h3':=bY h3;rw[if_pos (by omega)]
 ·have h3':=dm h3;refine aJ (λh4=>?_) (λh4=>?_)<;>simp only[go_sem,dL,bR]
  ·have h4':=bY h4;rw[if_pos (by omega)]
  ·have h4':=dm h4;rw[if_neg (by omega)];refine ck (σ:=Nat) (λx=>(cD (cD gU 1 (.ptr 1 0)) 3 (.p (.val (.int .i64 x)))))
    (λx=>(bh cv 1 (.box [.p (.aE (g.nodes.map encI)),.p (.aE (g.ag.map ay))])))
    (λx=>x<=g.nodes.length/\∀j,j<x->(!sB (g.nodes.getD j default))=false) (λx=>g.nodes.length-x) 0 ⟨Nat.zero_le _,λj hj=>absurd hj (Nat.not_lt_zero j)⟩ cJ ?_
   rintro x ⟨hx,hq⟩;simp only[go_sem,dL,bR];refine aJ (λhc=>?_) (λhc=>?_)
   ·have hlt:x<g.nodes.length:=by simpa using hc
    simp only[go_sem,dL,bR,getD_map encI hlt,hlt,encI];refine aU (alF (g.nodes.getD x default)) (by simp only[go_sem,dL,bR,getD_map encI hlt,hlt,encI]<;>rfl) (cF rfl) ?_;simp only[go_sem,dL,bR,getD_map encI hlt,hlt,encI];refine aV (λh5=>?_) (λh5=>?_)<;>simp only[go_sem,dL,bR,getD_map encI hlt,hlt,encI]
    ·exact cC (x+1) ⟨hlt,th (p:=λj=>!sB (g.nodes.getD j default)) (λj hj=>by have:=hq j hj;simpa using this) (by rw[h5];rfl)⟩ (by omega) (by rw[bX hlt (by omega)];exact cJ)
    ·rw[if_pos (any_true (p:=λn=>!sB n) hlt (by rw[h5];rfl))]
   ·have hge:g.nodes.length<=x:=by simpa using hc
    rw[if_neg (by rw[any_false (p:=λn=>!sB n) λj hj=>hq j (by omega)];decide)];simp only[go_sem,dL,bR];refine ck (σ:=Nat) (λx=>(cD (cD gU 1 (.ptr 1 0)) 4 (.p (.val (.int .i64 x)))))
     (λx=>(bh cv 1 (.box [.p (.aE (g.nodes.map encI)),.p (.aE (g.ag.map ay))])))
     (λx=>x<=g.ag.length/\∀j,j<x->(!tM g.nodes.length (g.ag.getD j default))=false) (λx=>g.ag.length-x) 0 ⟨Nat.zero_le _,λj hj=>absurd hj (Nat.not_lt_zero j)⟩ cJ ?_
    rintro y ⟨hy,hq'⟩;simp only[go_sem,dL,bR];refine aJ (λyP=>?_) (λyP=>?_)
    ·have hlt:y<g.ag.length:=by simpa using yP
     simp only[go_sem,dL,bR,getD_map ay hlt,hlt,ay];refine jh [.q,.q,.q,.q,.q,.q,.q,.q,.q,.q] (by kernel_rfl) ?_;simp only[go_sem,dL,bR,getD_map ay hlt,hlt,ay];refine nk (ar7 (g.ag.getD y default) g.nodes.length) (by simp only[go_sem,dL,bR,getD_map ay hlt,hlt,ay]<;>rfl) (cF rfl) ?_;simp only[go_sem,dL,bR,getD_map ay hlt,hlt,ay];refine aV (λh5=>?_) (λh5=>?_)<;>simp only[go_sem,dL,bR,getD_map ay hlt,hlt,ay]
     ·exact cC (y+1) ⟨hlt,th (p:=λj=>!tM g.nodes.length (g.ag.getD j default)) (λj hj=>by have:=hq' j hj;simpa using this) (by rw[h5];rfl)⟩ (by omega) (by rw[bX hlt (by omega)];exact cJ)
     ·rw[if_pos (any_true (p:=λe=>!tM g.nodes.length e) hlt (by rw[h5];rfl))]
    ·have aBU:g.ag.length<=y:=by simpa using yP
     rw[if_neg (by rw[any_false (p:=λe=>!tM g.nodes.length e) λj hj=>hq' j (by omega)];decide)];simp only[go_sem,dL,bR]
structure aAi(h:Host):Prop where
 graph:rD h.graph
 values:h.values.length<=45
 row:∀l∈h.values,l.length<=12
structure ayv(h:Host):Prop where
 graph:ajc h.graph
 values:h.values.length<=1000
 row:∀l∈h.values,l.length<=1000
theorem aAi.big{h:Host}(hh:aAi h):ayv h:=⟨hh.graph.big,by have:=hh.values;omega,λl hl=>by have:=hh.row l hl;omega⟩
def xC(t:Types)(kind:Nat)(values:List Int)(k:Nat):Int:=if values.getD k default<((aR t kind).getD k default).low\/((aR t kind).getD k default).high<values.getD k default then 6 else 0
def aa9(t:Types)(kind:Int)(values:List Int):Int :=
 if (t.nodes.length:Int)<=kind then 6
 else if (t.nodes.getD kind.toNat default).abs=true then 13
 else if values.length≠(aR t kind.toNat).length then 20
 else qF (xC t kind.toNat values) 0 values.length
def adZ(t:Types)(h:Host)(i:Nat):Int :=
 if (t.ag.length:Int)<=(h.graph.ag.getD i default).type then 6
 else if n7 t (h.graph.ag.getD i default).type (h.graph.nodes.getD (h.graph.ag.getD i default).src.toNat default) (h.graph.nodes.getD (h.graph.ag.getD i default).dst.toNat default)=true then 0 else 13
def adk(t:Types)(h:Host):Int×Int :=
 if (cZ t).2≠0 then (-1,(cZ t).2)
 else if cL h.graph≠0 then (-1,cL h.graph)
 else if h.values.length≠h.graph.nodes.length then (-1,20)
 else match kQ (λi=>aa9 t (h.graph.nodes.getD i default) (h.values.getD i default)) 0 h.graph.nodes.length with
  |some k=>((k:Int),aa9 t (h.graph.nodes.getD k default) (h.values.getD k default))
  |none=>match kQ (adZ t h) 0 h.graph.ag.length with
   |some k=>((k:Int),adZ t h k)
   |none=>(-1,0)
theorem avz(t:Types)(ht:yQ t)(kind:Int)(hk:0<=kind)(values:List Int)(hv:values.length<=1000):aB pw 250 [ax t,.val (.int .i64 kind),.aE (values.map encI)] (λr=>r = .val (.int .i64 (aa9 t kind values))):=by
 obtain⟨k,rfl⟩:∃k:Nat,kind=k:=⟨_,(Int.toNat_of_nonneg hk).symm⟩;refine aC [] func250 ?_;rw[ntmps250,results250];simp only[go_sem,ax];refine aJ (λh1=>?_) (λh1=>?_)<;>simp only[go_sem,ax]
 ·have yB:=bY h1;unfold aa9;rw[if_pos (by omega)]
 ·have yB:=dm h1;have hkl:k<t.nodes.length:=by omega
  have hlen:=lV ht.few hkl (ht.par' hkl);have e0:aa9 t k values=if (t.nodes.getD k default).abs=true then 13 else if values.length≠(aR t k).length then 20 else qF (xC t k values) 0 values.length:=by unfold aa9;rw[if_neg (by omega),Int.toNat_natCast]
  rw[e0];clear e0;simp only[go_sem,ax,getD_map az hkl,hkl,az];refine aJ (λh2=>?_) (λh2=>?_)<;>simp only[go_sem,ax,getD_map az hkl,hkl,az]
  ·rw[if_pos h2]
  ·rw[if_neg (by rw[h2];decide)];refine aU (ahy t ht k hkl) (by simp only[go_sem,ax,getD_map az hkl,hkl,az]<;>rfl) (abB) ?_;simp only[go_sem,ax,getD_map az hkl,hkl,az];refine aV (λh3=>?_) (λh3=>?_)<;>simp only[go_sem,ax,getD_map az hkl,hkl,az]
   ·have h3':=bY h3;have hvl:values.length=(aR t k).length:=by omega
    rw[if_neg (by omega)];refine ck (σ:=Nat) (λx=>(cD (cD (cD (cD gU 2 (.p (.aE (values.map encI)))) 33 (.p (.aE ((aR t k).map aN)))) 34 (.p (.val (.int .i64 (aR t k).length)))) 35 (.p (.val (.int .i64 x))))) (λx=>cv)
     (λx=>x<=values.length/\∀j,j<x->xC t k values j=0) (λx=>values.length-x) 0 ⟨Nat.zero_le _,λj hj=>absurd hj (Nat.not_lt_zero j)⟩ cJ ?_
    rintro x ⟨hx,hq⟩;simp only[go_sem,ax,getD_map az hkl,hkl,az];refine aJ (λhc=>?_) (λhc=>?_)
    ·have hlt:x<(aR t k).length:=by simpa using hc
     have tN:x<values.length:=by omega
     simp only[go_sem,ax,getD_map az hkl,hkl,az,getD_map aN hlt,hlt,aN,cz,getD_map encI tN,tN,encI];refine jh [.q,.q,.q,.q,.q,.q,.q,.q,.q,.q,.q,.q,.q,.q,.q,.q] (by kernel_rfl) ?_;simp only[go_sem,ax,getD_map az hkl,hkl,az,getD_map aN hlt,hlt,aN,cz,getD_map encI tN,tN,encI];have bad:∀p:Prop,xC t k values x=6->p=p->(6:Int)=qF (xC t k values) 0 values.length:=λp e _=>by rw[tJ tN hq (by rw[e];decide),e]
     refine qZ (λh4=>?_) (λh4=>?_)<;>simp only[go_sem,h4,ax,getD_map az hkl,hkl,az,getD_map aN hlt,hlt,aN,cz,getD_map encI tN,tN,encI]
     ·have h4':=bY h4;exact bad True (by unfold xC;rw[if_pos (.inl h4')]) rfl
     ·have h4':=dm h4;refine aJ (λh5=>?_) (λh5=>?_)<;>simp only[go_sem,h5,ax,getD_map az hkl,hkl,az,getD_map aN hlt,hlt,aN,cz,getD_map encI tN,tN,encI]
      ·have h5':=bY h5;exact bad True (by unfold xC;rw[if_pos (.inr h5')]) rfl
      ·have h5':=dm h5;have e:xC t k values x=0:=by unfold xC;rw[if_neg (by omega)]
       exact cC (x+1) ⟨tN,all_succ hq e⟩ (by omega) (by rw[bX tN (by omega)];exact cJ)
    ·have hge:(aR t k).length<=x:=by simpa using hc
     simp only[go_sem,ax,getD_map az hkl,hkl,az];rw[xz λj hj=>hq j (by omega)]
   ·have h3':=dm h3;rw[if_pos (by omega)]
theorem ar8(t:Types)(hf:jB t)(h:Host)(hh:ayv h):aB pw 175 [ax t,gz h] (λr=>r = .dg [.val (.int .i64 (adk t h).1),.val (.int .i64 (adk t h).2)]):=by
 have hg1:=hh.graph.nodes;have hg2:=hh.graph.ag;have hv:=hh.values;refine aC [] func175 ?_;rw[ntmps175,results175];simp only[go_sem,ax,gz,bR];refine aU (afB t hf) (by simp only[go_sem,ax,gz,bR]<;>rfl) (cF rfl) ?_;simp only[go_sem,ax,gz,bR];refine aV (λh1=>?_) (λh1=>?_)<;>simp only[go_sem,ax,gz,bR]
 ·have yB:=bY h1;have ht:=xB hf yB
  have e1 : adk t h = if cL h.graph ≠ 0 then (-1, cL h.graph)
    else if h.values.length≠h.graph.nodes.length then (-1,20)
    else match kQ (λi=>aa9 t (h.graph.nodes.getD i default) (h.values.getD i default)) 0 h.graph.nodes.length with
     |some k=>((k:Int),aa9 t (h.graph.nodes.getD k default) (h.values.getD k default))
     |none=>match kQ (adZ t h) 0 h.graph.ag.length with
      |some k=>((k:Int),adZ t h k)
      |none=>(-1,0):=by
   unfold adk;rw[if_neg (by rw[yB];decide)];try rfl
  rw[e1];refine aU (ahz h.graph hh.graph) (by simp only[go_sem,ax,gz,bR]<;>rfl) (cF rfl) ?_;simp only[go_sem,ax,gz,bR];refine aV (λh2=>?_) (λh2=>?_)<;>simp only[go_sem,ax,gz,bR]
  ·have h2':=bY h2;have hg:=okG h2';rw[if_neg (by rw[h2'];decide)];refine aV (λh3=>?_) (λh3=>?_)<;>simp only[go_sem,ax,gz,bR]
   ·have h3':=bY h3;have hvl:h.values.length=h.graph.nodes.length:=by omega
    rw[if_neg (by omega)];generalize hF:(λi=>aa9 t (h.graph.nodes.getD i default) (h.values.getD i default))=f;refine ck (σ:=Nat) (λx=>(cD (cD (cD (cD (cD gU 2 (.ptr 2 0)) 3 (.ptr 3 0)) 38 (.p (.aE (h.graph.nodes.map encI)))) 39 (.p (.val (.int .i64 h.graph.nodes.length)))) 40 (.p (.val (.int .i64 x)))))
     (λx=>(bh (bh cv 2 (.box [.p (.aE (t.nodes.map az)),.p (.aE (t.ag.map aA))])) 3 (.box [.p (.aE (h.graph.nodes.map encI)),.p (.aE (h.graph.ag.map ay)),.p (.aE (h.values.map dw))])))
     (λx=>x<=h.graph.nodes.length/\∀j,j<x->f j=0) (λx=>h.graph.nodes.length-x) 0 ⟨Nat.zero_le _,λj hj=>absurd hj (Nat.not_lt_zero j)⟩ cJ ?_
    rintro x ⟨hx,hq⟩;simp only[go_sem,ax,gz,bR];refine aJ (λhc=>?_) (λhc=>?_)
    ·have hlt:x<h.graph.nodes.length:=by simpa using hc
     have tN:x<h.values.length:=by omega
     have hr:=hh.row _ (gF tN);simp only[go_sem,ax,gz,bR,getD_map encI hlt,hlt,encI,getD_map dw tN,tN,dw];refine jh [.q,.q,.q,.q,.q,.q,.q,.q,.q] (by kernel_rfl) ?_;simp only[go_sem,ax,gz,bR,getD_map encI hlt,hlt,encI,getD_map dw tN,tN,dw];refine nk (avz t ht (h.graph.nodes.getD x default) (hg.kind x hlt).1 (h.values.getD x default) (by omega)) (by simp only[go_sem,ax,gz,bR,getD_map encI hlt,hlt,encI,getD_map dw tN,tN,dw]<;>rfl) (cF rfl) ?_;simp only[go_sem,ax,gz,bR,getD_map encI hlt,hlt,encI,getD_map dw tN,tN,dw];have e:f x=aa9 t (h.graph.nodes.getD x default) (h.values.getD x default):=by rw[<-hF]
     refine aV (λh4=>?_) (λh4=>?_)<;>simp only[go_sem,ax,gz,bR,getD_map encI hlt,hlt,encI,getD_map dw tN,tN,dw]
     ·have h4':=bY h4;exact cC (x+1) ⟨hlt,all_succ hq (e.trans h4')⟩ (by omega) (by rw[bX hlt (by omega)];exact cJ)
     ·have h4':=dm h4;rw[oU (Nat.zero_le _) hlt (λj _=>hq j) (by rw[e];exact h4')];exact⟨rfl,rfl⟩
    ·have hge:h.graph.nodes.length<=x:=by simpa using hc
     rw[kH λj _ hj=>hq j (by omega)];simp only[go_sem,ax,gz,bR];refine ck (σ:=Nat) (λx=>(cD (cD (cD (cD (cD gU 2 (.ptr 2 0)) 3 (.ptr 3 0)) 60 (.p (.aE (h.graph.ag.map ay)))) 61 (.p (.val (.int .i64 h.graph.ag.length)))) 62 (.p (.val (.int .i64 x)))))
      (λx=>(bh (bh cv 2 (.box [.p (.aE (t.nodes.map az)),.p (.aE (t.ag.map aA))])) 3 (.box [.p (.aE (h.graph.nodes.map encI)),.p (.aE (h.graph.ag.map ay)),.p (.aE (h.values.map dw))])))
      (λx=>x<=h.graph.ag.length/\∀j,j<x->adZ t h j=0) (λx=>h.graph.ag.length-x) 0 ⟨Nat.zero_le _,λj hj=>absurd hj (Nat.not_lt_zero j)⟩ cJ ?_
     rintro y ⟨hy,hq'⟩;simp only[go_sem,ax,gz,bR];refine aJ (λyP=>?_) (λyP=>?_)
     ·have hlt:y<h.graph.ag.length:=by simpa using yP
      have hE:=hg.oK y hlt;obtain⟨a,ha⟩:∃k:Nat,(h.graph.ag.getD y default).src=k:=⟨_,(Int.toNat_of_nonneg hE.2.1.1).symm⟩;obtain⟨b,hb⟩:∃k:Nat,(h.graph.ag.getD y default).dst=k:=⟨_,(Int.toNat_of_nonneg hE.2.2.1).symm⟩;have hal:a<h.graph.nodes.length:=by have:=hE.2.1.2;rw[ha] at this;omega
      have hbl:b<h.graph.nodes.length:=by have:=hE.2.2.2;rw[hb] at this;omega
      have e0:adZ t h y=if (t.ag.length:Int)<=(h.graph.ag.getD y default).type then 6 else if n7 t (h.graph.ag.getD y default).type (h.graph.nodes.getD a default) (h.graph.nodes.getD b default)=true then 0 else 13:=by unfold adZ;rw[ha,hb,Int.toNat_natCast,Int.toNat_natCast]
      simp only[go_sem,ax,gz,bR,getD_map ay hlt,hlt,ay,ha,hb];refine aJ (λh5=>?_) (λh5=>?_)<;>simp only[go_sem,ax,gz,bR,getD_map ay hlt,hlt,ay,ha,hb]
      ·have h5':=bY h5;have e6:adZ t h y=6:=by rw[e0,if_pos h5']
       rw[oU (Nat.zero_le _) hlt (λj _=>hq' j) (by rw[e6];decide)];simp only[e6]
       first|exact⟨rfl,rfl⟩|exact⟨trivial,trivial⟩|exact⟨rfl,trivial⟩|exact⟨trivial,rfl⟩
      ·have h5':=dm h5;rw[if_neg h5'] at e0;refine jh [.q,.q,.q,.q,.q,.q,.q,.q,.q,.q,.q,.q,.q,.q,.q,.q,.q,.q,.q] (by kernel_rfl) ?_;simp only[go_sem,getD_map encI hal,hal,getD_map encI hbl,hbl,encI,ax,gz,bR,getD_map ay hlt,hlt,ay,ha,hb];refine nk (apJ t hf (h.graph.ag.getD y default).type (h.graph.nodes.getD a default) (h.graph.nodes.getD b default)) (by simp only[go_sem,ax,gz,bR,getD_map ay hlt,hlt,ay,ha,hb]<;>rfl) (cF rfl) ?_;simp only[go_sem,ax,gz,bR,getD_map ay hlt,hlt,ay,ha,hb];refine aV (λh6=>?_) (λh6=>?_)<;>simp only[go_sem,ax,gz,bR,getD_map ay hlt,hlt,ay,ha,hb]
       ·rw[if_pos h6] at e0;exact cC (y+1) ⟨hlt,all_succ hq' e0⟩ (by omega) (by rw[bX hlt (by omega)];exact cJ)
       ·rw[if_neg (by rw[h6];decide)] at e0;rw[oU (Nat.zero_le _) hlt (λj _=>hq' j) (by rw[e0];decide)];simp only[e0]
        first|exact⟨rfl,rfl⟩|exact⟨trivial,trivial⟩|exact⟨rfl,trivial⟩|exact⟨trivial,rfl⟩
     ·have aBU:h.graph.ag.length<=y:=by simpa using yP
      simp only[go_sem,ax,gz,bR];rw[kH λj _ hj=>hq' j (by omega)];exact⟨rfl,rfl⟩
   ·have h3':=dm h3;rw[if_pos (by omega)];exact⟨rfl,rfl⟩
  ·have h2':=dm h2;rw[if_pos h2'];exact⟨rfl,rfl⟩
 ·have yB:=dm h1;unfold adk;rw[if_pos yB];exact⟨rfl,rfl⟩
instance(t:Types):Decidable (jB t):=decidable_of_iff (t.nodes.length<=20/\t.ag.length<=30/\(∀n∈t.nodes,n.attrs.length<=30)/\(∀n∈t.nodes,n.name.size<=40)/\(∀n∈t.nodes,∀a∈n.attrs,a.name.size<=40)/\(∀n∈t.nodes,∀a∈n.attrs,a.names.length<=25)/\(∀n∈t.nodes,∀a∈n.attrs,∀s∈a.names,s.size<=40)/\∀e∈t.ag,e.name.size<=40)
 ⟨λ⟨a,b,c,d,e,f,g,h⟩=>⟨a,b,c,d,e,f,g,h⟩,λ⟨a,b,c,d,e,f,g,h⟩=>⟨a,b,c,d,e,f,g,h⟩⟩
instance(t:Types):Decidable (yQ t):=decidable_of_iff (jB t/\0<t.nodes.length/\t.nodes.length<=12/\t.ag.length<=20/\(∀j,j<t.nodes.length->lW t j=0)/\∀j,j<t.ag.length->nZ t j=0)
 ⟨λ⟨a,b,c,d,e,f⟩=>⟨a,b,c,d,e,f⟩,λ⟨a,b,c,d,e,f⟩=>⟨a,b,c,d,e,f⟩⟩
instance(g:au):Decidable (rD g):=decidable_of_iff (g.nodes.length<=45/\g.ag.length<=90) ⟨λ⟨a,b⟩=>⟨a,b⟩,λ⟨a,b⟩=>⟨a,b⟩⟩
instance(g:au):Decidable (ajc g):=decidable_of_iff (g.nodes.length<=1000/\g.ag.length<=1000) ⟨λ⟨a,b⟩=>⟨a,b⟩,λ⟨a,b⟩=>⟨a,b⟩⟩
instance(h:Host):Decidable (aAi h):=decidable_of_iff (rD h.graph/\h.values.length<=45/\∀l∈h.values,l.length<=12) ⟨λ⟨a,b,c⟩=>⟨a,b,c⟩,λ⟨a,b,c⟩=>⟨a,b,c⟩⟩
instance(h:Host):Decidable (ayv h):=decidable_of_iff (ajc h.graph/\h.values.length<=1000/\∀l∈h.values,l.length<=1000) ⟨λ⟨a,b,c⟩=>⟨a,b,c⟩,λ⟨a,b,c⟩=>⟨a,b,c⟩⟩
end Go.Proofs.YtldllhbhnpjlcaaGreat
namespace Go.Proofs
open Go.Shelf
def YtldllhbhnpjlcaaGreat.alG:Go.Shelf.Ren:=⟨λ| 4=>105|n=>n,λ| 22=>35|25=>3|3=>3|4=>4|9=>9|20=>20|0=>0|n=>n,λ| n=>n⟩
theorem YtldllhbhnpjlcaaGreat.ayw:Go.Proofs.Lays8.n4 pw YtldllhbhnpjlcaaGreat.alG:={
 mixed:=by kernel_rfl
 f4:=⟨Tryz.f105.name,by decide,Tryz.func105.trans (congrArg some (by kernel_rfl))⟩
 t0:=underlying0
 a0:=isAgg0
 z0:=sizeOf0
 v0:=zeroValue0
 t3:=underlying3
 a3:=isAgg3
 z3:=sizeOf3
 v3:=zeroValue3
 t4:=underlying4
 a4:=isAgg4
 z4:=sizeOf4
 v4:=zeroValue4
 t9:=underlying9
 a9:=isAgg9
 z9:=sizeOf9
 v9:=zeroValue9
 t20:=underlying20
 a20:=isAgg20
 z20:=sizeOf20
 v20:=zeroValue20
 t22:=underlying35
 a22:=isAgg35
 z22:=sizeOf35
 v22:=zeroValue35 }
end Go.Proofs
namespace Go.bP
open Go.RowKit
variable{P:Program}
theorem rC.len:∀ {ps' ps:List PV},rC ps' ps->ps'.length=ps.length
 | [],[],_=>rfl
 | [],_ :: _,h=>h.elim
 |_ :: _,[],h=>h.elim
 |_ :: _,_ :: _,h=>by simp[rC.len h.2]
theorem rC.at:∀ {ps' ps:List PV},rC ps' ps->∀ {j:Nat} {c:PV},ps[j]? = some c->∃c',ps'[j]? = some c'/\PLe c' c
 | [],[],_,_,_,h=>by simp at h
 | [],_ :: _,h,_,_,_=>h.elim
 |_ :: _,[],h,_,_,_=>h.elim
 |a :: r,b :: s,h,j,c,hc=>by
  cases j with
  |zero=>simp at hc;subst hc;exact⟨a,rfl,h.1⟩
  |succ j=>obtain⟨c',h1,h2⟩:=rC.at h.2 (j:=j) (c:=c) (by simpa using hc);exact⟨c',by simpa using h1,h2⟩
theorem PLe.agg{ps' ps:List PV}(h:rC ps' ps):PLe (.agg ps') (.agg ps):=λI v hv=>by
 cases hv with
 |agg us _ hl hv hone=>refine .agg us ps (hl.trans h.len) (λj u c hu hc=>?_) hone;obtain⟨c',h1,h2⟩:=h.at hc;exact h2 I u (hv j u c' hu h1)
theorem PLe.dg{ps' ps:List PV}(h:rC ps' ps):PLe (.dg ps') (.dg ps):=λI v hv=>by
 cases hv with
 |dg us _ hl hv=>refine .dg us ps (hl.trans h.len) (λj u c hu hc=>?_);obtain⟨c',h1,h2⟩:=h.at hc;exact h2 I u (hv j u c' hu h1)
theorem rC.refl:∀ps:List PV,rC ps ps
 | []=>trivial
 |a :: r=>⟨PLe.refl a,rC.refl r⟩
theorem aB.le{f:FuncId}{args:List PV}{Q Q':PV->Prop}(h:aB P f args Q)(hq:∀r,Q r->∃r',PLe r r'/\Q' r'):aB P f args Q' :=
 ⟨h.1,λI w vs hI hv=>(h.2 I w vs hI hv).mono λ_ _ ⟨v,r,I',h1,h2,h3,h4⟩=>by
  obtain⟨r',h5,h6⟩:=hq r h2;exact⟨v,r',I',h1,h6,h5 _ _ h3,h4⟩⟩
end Go.bP
namespace Go.bP
open Go.RowKit
variable{P:Program}
structure apK(w w':World)(hdr:Value)(n:Nat)(vs:List Value):Prop where
 grown:w.grownBy w' hdr.ownBlock
 row:∀g,hdr.ownBlock=some g->∀cur e,w.heap[g]? = some (.cells cur e (0,0))->n<=cur.size->∃cur',w'.heap[g]? = some (.cells cur' e (0,0))/\cur'.size=cur.size/\cur'.toList.take n=vs
theorem ar9{f:FuncId}{v:Nat}{e:TypeId}{sz:Nat}{es es':List (List PV)}{ps:List PV}{ws:List Value}(hc:gl P f=true)(hlen:es'.length=es.length)(hsz:∀x∈es',x.length=sz)
  (hfl:es'.flatten=ws.map PV.val) (hone:∀u∈ws,u.oneCell'=true)
  (h:∀ (B:Nat) (I:Mem) (w:World) (hdr:Value) (us vs:List Value),B<=w.heap.size->I.inW w->rq w B I hdr e sz es us->hdr.oneCell'=true->VRs I vs ps ->
   Calls P f (hdr :: vs).toArray w λx w'=>x = .returned (.tuple #[])/\apK w w' hdr (es.length * sz) ws) :
  pH P f v e sz es ps (λa c=>a = .dg []/\c=some (.row v e sz es')):=by
 refine⟨hc,λB I w hdr us vs hB hI hr h1 hv=>(h B I w hdr us vs hB hI hr h1 hv).mono ?_⟩;rintro x w' ⟨rfl,hg,hrow⟩;let L:bg:=λi=>if i=1000000 then some (.row v hdr sz) else none
 have hL:∀i l,L i=some l->i=1000000/\l = .row v hdr sz:=λi l h=>by
  simp only[L] at h;split at h
  ·rename_i hi;exact⟨hi,by simpa using h.symm⟩
  ·cases h
 have hwl:ws.length=es.length * sz:=by have h2:=b5 hsz;rw[hfl,List.length_map,hlen] at h2;exact h2
 have hblk:∀b,hdr.ownBlock=some b->B<=b/\b<w.heap.size:=λb hb=>vC hr.own hb
 refine⟨.tuple #[],.dg [],bh cv 1000000 (.row v e sz es'),I,L,rfl,⟨rfl,by simp[bh]⟩,.dg [] [] rfl (by simp),?_⟩;exact
 {below:=⟨hg.os,hg.tape,hg.output,hg.size,λk hk=>hg.block k (Nat.lt_of_lt_of_le hk hB) λhb=>by have:=(hblk k hb.symm).1;have:k<B:=hk;omega⟩
  mem:=hI.keep λb ⟨o,u,hu⟩=>hg.block b (hI.lt hu) λhb=>by rw[hr.free b hb.symm o] at hu;cases hu
  mw:=Mem.ew I
  m8:=λ_ _ _ _=>rfl
  frame:=λb hb hn=>hg.block b hb λhb'=>hn hb'.symm
  loc:=dN.refl _
  j9:=λid l b hl hb=>by obtain⟨_,rfl⟩:=hL id l hl;exact .inr hb
  size:=rfl
  env:=λt=>.dead _
  dom:=λi l hl=>by obtain⟨rfl,rfl⟩:=hL i l hl;exact⟨.row v e sz es',by simp[bh]⟩
  chunk:=λi ch hch=>by
   by_cases hi:i=1000000
   ·subst hi;have:Chunk.row v e sz es'=ch:=by simpa[bh] using hch
    subst this;refine⟨hdr,ws,by simp[L],⟨by rw[hlen];exact hwl,?_⟩,hr.pos,hsz,λj u c hu hc=>?_,hone,hr.free⟩
    ·rcases hr.own.2 with ⟨e1,e2⟩|⟨g,cap,cur,rfl,g1,g2,g3,g4,g5,g6⟩
     ·exact .inl ⟨e1,by rw[hlen];exact e2⟩
     ·obtain⟨cur',k1,k2,k3⟩:=hrow g rfl cur e g2 (by rw[g5];exact Nat.mul_le_mul_right sz g3);exact .inr ⟨g,cap,cur',by rw[hlen],g1,k1,by rw[hlen];exact g3,g4,by rw[k2];exact g5,by rw[hlen];exact k3⟩
    ·rw[hfl] at hc;simp only[List.getElem?_map,hu,Option.map_some,cm] at hc;subst hc;exact .val u (hone u (List.mem_of_getElem? hu))
   ·have:cv i=some ch:=by simpa[bh,hi] using hch
    cases this
  fO:=λi l b hl hb=>by obtain⟨rfl,rfl⟩:=hL i l hl;have:=hblk b hb;exact⟨this.1,Nat.lt_of_lt_of_le this.2 hg.size⟩
  apart:=λi j li lj b hi hj _ _=>by rw[(hL i li hi).1,(hL j lj hj).1] }
end Go.bP
