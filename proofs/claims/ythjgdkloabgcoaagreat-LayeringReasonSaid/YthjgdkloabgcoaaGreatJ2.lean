/- Joined texts, part 2: lemmas for the statement. No condition. -/
import Derived.Test.YthjgdkloabgcoaaGreatJ1
import Derived.Shelf.Slices.In.SortAlone
import Derived.Shelf.Slices.In.SortNone
import Derived.Shelf.Slices.CompactI
import Derived.Sort.OwnSortedInts
import Derived.Ground.NamesProg
import Derived.Ground.Names2Prog
import Derived.Test.YthjgdkloabgcoaaGreatProg
import Derived.KernelRfl
set_option maxHeartbeats 4000000
set_option linter.unusedSimpArgs false
set_option linter.unusedVariables false
open Nat (reduceEqDiff reduceLT reduceLeDiff reduceMul reduceAdd reduceSub)
namespace Go.Abs
open Go.RowKit

variable {P:Program} {I:Mem} {L:zbl}

abbrev Kont:=Exit→Env→za→Prop

theorem Weak.refl (env:Env) (H:za):Weak env H env H:=fun _ I L _ _ h=>⟨I,L,h⟩
theorem Weak.trans {e1 e2 e3:Env} {H1 H2 H3:za} (h:Weak e1 H1 e2 H2) (k:Weak e2 H2 e3 H3):Weak e1 H1 e3 H3:=fun C I L tm w hs=>by
 obtain⟨I1,L1,h1⟩:=h C I L tm w hs
 exact k C I1 L1 tm w h1

def drawW (P:Program) (N:Nat) (own:List Nat) (ops:Array Oper) (K:Env→za→Prop) (env:Env) (H:za):Prop :=
 ∀C I L tm w,C.n=N→Sim C env H I L tm w→wpAny P .any ops (fun e a w'=>a.defers=[]∧e = .normal∧∃env' H' I' L',K env' H'∧Sim C env' H' I' L' a.tmps w') ops.size (Array.replicate ops.size false) ⟨tm,[]⟩ { w with drawn:=w.drawn+1 }

def loopWith (W:Kont→Env→za→Prop) (K:Kont) (env:Env) (H:za):Prop :=
 ∃Inv:Nat→Env→za→Prop,(∃n e2 H2,Inv n e2 H2∧Weak env H e2 H2) ∧
  ∀n e H,Inv n e H→W (fun x e' H'=>match x with
   | .normal=>∃m e2 H2,m<n∧Inv m e2 H2∧Weak e' H' e2 H2
   | x=>K x e' H') e H

def condWith (X Y:Prop) (c:AV):Prop:=match c with
 | .p (.val (.bool b))=>(b=true→X)∧(b=false→Y)
 | _=>False

def cw (P:Program) (N:Nat) (own:List Nat):Code→Kont→Env→za→Prop
 | .skip,K,env,H=>K .normal env H
 | .label _,K,env,H=>K .normal env H
 | .region _ ops false,K,env,H=>walk P N own ops ops.toList (K .normal) env H
 | .region _ ops true,K,env,H=>drawW P N own ops (K .normal) env H
 | .seq a b, K, env, H => cw P N own a (fun x e' H' => match x with
   | .normal=>cw P N own b K e' H'
   | x=>K x e' H') env H
 | .cond c a b,K,env,H=>condWith (cw P N own a K env H) (cw P N own b K env H) (ev env c)
 | .block id c, K, env, H => cw P N own c (fun x e' H' => match x with
   | .exit id'=>if id'=id then K .normal e' H' else K (.exit id') e' H'
   | x=>K x e' H') env H
 | .loop c,K,env,H=>loopWith (cw P N own c) K env H
 | .exit id,K,env,H=>K (.exit id) env H
 | .ret,K,env,H=>K .ret env H
 | _,_,_,_=>False

def lift (C:Ctx) (K:Kont):Exit→Act→World→Prop:=fun e a w =>
 a.defers=[]∧∃env H I L,K e env H∧Sim C env H I L a.tmps w

theorem zis {N:Nat} {own:List Nat} (hm:P.follows .mixedOrders=true):∀ (c:Code) (K:Kont) (C:Ctx),C.n=N→∀env H I L tm w,cw P N own c K env H→Sim C env H I L tm w→c.wp P (lift C K) ⟨tm,[]⟩ w
 | .skip,K,C,hN,env,H,I,L,tm,w,h,hs=>wp_skip ⟨rfl,env,H,I,L,h,hs⟩
 | .label _,K,C,hN,env,H,I,L,tm,w,h,hs=>wp_label ⟨rfl,env,H,I,L,h,hs⟩
 | .region _ ops false,K,C,hN,env,H,I,L,tm,w,h,hs=>by
  refine wp_region ?_
  have:=wpOps_eq_wpList (P:=P) (ops:=ops) (Q:=lift C K) ops.toList 0 (by simp)
  rw[List.range_eq_range',←Array.length_toList,this]
  exact zp5 hN (fun env H I L tm w hk hs=>⟨rfl,env,H,I,L,hk,hs⟩) ops.toList env H I L tm w h hs
 | .region _ ops true,K,C,hN,env,H,I,L,tm,w,h,hs=>by
  refine wp_mono (Q:=fun e a w'=>a.defers=[]∧e = .normal∧∃env' H' I' L',K .normal env' H'∧Sim C env' H' I' L' a.tmps w') (wp_region_any hm (h C I L tm w hN hs)) ?_
  rintro e a w ⟨h1,rfl,env',H',I',L',h2,h3⟩
  exact⟨h1,env',H',I',L',h2,h3⟩
 | .seq a b,K,C,hN,env,H,I,L,tm,w,h,hs=>by
  refine wp_seq (wp_mono (zis hm a _ C hN env H I L tm w h hs) ?_)
  rintro e ac w ⟨h1,env',H',I',L',h2,h3⟩
  cases ac with
  | mk tmps ds =>
   simp only at h1 h3
   subst h1
   cases e with
   | normal=>exact zis hm b K C hN env' H' I' L' tmps w h2 h3
   | _=>exact⟨rfl,env',H',I',L',h2,h3⟩
 | .cond c a b,K,C,hN,env,H,I,L,tm,w,h,hs=>by
  have h:condWith (cw P N own a K env H) (cw P N own b K env H) (ev env c):=h
  have hc:=zji hs [] c
  unfold condWith at h
  split at h
  ·rename_i t ht
   rw[ht] at hc
   exact wp_cond_split hc.of_val.1 (fun ht=>zis hm a K C hN env H I L tm w (h.1 ht) hs) (fun ht=>zis hm b K C hN env H I L tm w (h.2 ht) hs)
  ·exact h.elim
 | .block id c,K,C,hN,env,H,I,L,tm,w,h,hs=>by
  refine wp_block (wp_mono (zis hm c _ C hN env H I L tm w h hs) ?_)
  rintro e ac w ⟨h1,env',H',I',L',h2,h3⟩
  cases e with
  | exit id' =>
   simp only[Exit.inBlock]
   dsimp only at h2
   split
   ·rename_i he
    rw[if_pos he] at h2
    exact⟨h1,env',H',I',L',h2,h3⟩
   ·rename_i he
    rw[if_neg he] at h2
    exact⟨h1,env',H',I',L',h2,h3⟩
  | _=>exact⟨h1,env',H',I',L',h2,h3⟩
 | .loop c,K,C,hN,env,H,I,L,tm,w,h,hs=>by
  obtain⟨Inv,⟨n0,e0,H0,hi0,hw0⟩,hround⟩:=h
  intro b k cs
  have key : ∀ n, ∀ e H I L tm w, Inv n e H → Sim C e H I L tm w →
    ∃x a' w',lift C K x a' w'∧Arrives P (lone (b.at ⟨tm,[]⟩ (.code c :: .inLoop c :: k)) cs w) b k cs x a' w':=by
   intro n
   induction n using Nat.strongRecOn with
   | _ n ih =>
    intro e H I L tm w hi hs
    obtain⟨x,a',w',hq,harr⟩:=zis hm c _ C hN e H I L tm w (hround n e H hi) hs b (.inLoop c :: k) cs
    obtain⟨hd,e',H',I',L',hq,hs'⟩:=hq
    cases a' with
    | mk tmps ds =>
     simp only at hd hs'
     subst hd
     cases x with
     | normal =>
      obtain⟨m,e2,H2,hlt,hi2,hwk⟩:=hq
      obtain⟨I2,L2,hs2⟩:=hwk C I' L' tmps w' hs'
      obtain⟨x,a2,w2,hq2,harr2⟩:=ih m hlt e2 H2 I2 L2 tmps w' hi2 hs2
      exact⟨x,a2,w2,hq2,.of_steps (Steps.trans harr (.one step_inLoop)) harr2⟩
     | exit id=>exact⟨_,_,w',⟨rfl,e',H',I',L',hq,hs'⟩,.pass (x:=.inLoop c) rfl (fun _ _=>.inl (by simp)) harr⟩
     | goto l=>exact⟨_,_,w',⟨rfl,e',H',I',L',hq,hs'⟩,.pass (x:=.inLoop c) rfl (fun _ _=>.inl (by simp)) harr⟩
     | ret=>exact⟨_,_,w',⟨rfl,e',H',I',L',hq,hs'⟩,.pass (x:=.inLoop c) rfl (fun _ _=>.inl (by simp)) harr⟩
     | panic ch=>exact⟨_,_,w',⟨rfl,e',H',I',L',hq,hs'⟩,.pass (x:=.inLoop c) rfl (fun _ _=>.inl (by simp)) harr⟩
     | outgrown=>exact⟨_,_,w',⟨rfl,e',H',I',L',hq,hs'⟩,.pass (x:=.inLoop c) rfl (fun _ _=>.inl (by simp)) harr⟩
  obtain⟨I0,L0,hs0⟩:=hw0 C I L tm w hs
  obtain⟨x,a',w',hq,harr⟩:=key n0 e0 H0 I0 L0 tm w hi0 hs0
  exact⟨x,a',w',hq,.of_steps (.one step_loop) harr⟩
 | .exit id,K,C,hN,env,H,I,L,tm,w,h,hs=>wp_exit ⟨rfl,env,H,I,L,h,hs⟩
 | .ret,K,C,hN,env,H,I,L,tm,w,h,hs=>wp_ret ⟨rfl,env,H,I,L,h,hs⟩
 | .goto _,K,C,hN,env,H,I,L,tm,w,h,hs=>h.elim
 | .rangeFunc _ _ _ _,K,C,hN,env,H,I,L,tm,w,h,hs=>h.elim
 | .scope _,K,C,hN,env,H,I,L,tm,w,h,hs=>h.elim
 | .refuse _,K,C,hN,env,H,I,L,tm,w,h,hs=>h.elim

def argsEnv (args:List PV):Env:=fun t=>match args[t]? with
 | some x=>.p x
 | none=>.dead

def resA (P:Program) (env:Env) (H:za):ResultVar→Option AV
 | .tmp t=>some (env t)
 | .cell a t=>match env a with
  | .ptr id off=>match H id with
   | some (.box cs)=>readA P t cs off
   | _=>none
  | _=>none

def resL (P:Program) (env:Env) (H:za):List ResultVar→Option (List AV)
 | []=>some []
 | r :: rs=>match resA P env H r,resL P env H rs with
  | some a,some als=>some (a :: als)
  | _,_=>none

def resAV (P:Program) (env:Env) (H:za) (rs:List ResultVar):Option AV:=match resL P env H rs with
 | some [a]=>some a
 | some als=>some (.tup als)
 | none=>none

def resP (P:Program) (env:Env) (H:za) (rs:List ResultVar):Option PV:=match resAV P env H rs with
 | some a=>match lend2 H a with
  | some (x,_)=>some x
  | none=>none
 | none=>none

def retK (P:Program) (rs:List ResultVar) (Q:PV→Prop):Kont:=fun e env H=>match e with
 | .normal | .ret=>(match resP P env H rs with
  | some r=>Q r
  | none=>False)
 | _=>False

def resOne (tm:Array Value):ResultVar→Sem Value
 | .tmp t=>pure (tm.getD t undef)
 | .cell a t=>do loadVar t (←asAddr (tm.getD a undef))

theorem zp9 {C : Ctx} {env : Env} {H : za} {tm : Array Value} {w : World} (hs : Sim C env H I L tm w) : ∀ (rs : List ResultVar) (als : List AV), resL P env H rs = some als →
  ∃us:List Value,(rs.mapM (resOne tm)).run P w = .ok us w∧AVRs I L us als
 | [],als,h=>by simp[resL] at h; subst h; exact⟨[],by simp,rfl,by simp⟩
 | r :: rs,als,h=>by
  simp only[resL] at h
  split at h
  ·rename_i a as' h1 h2
   simp only[Option.some.injEq] at h
   subst h
   obtain⟨us,hr,hu⟩:=zp9 hs rs as' h2
   have one:∃u,(resOne tm r).run P w = .ok u w∧AVR I L u a:=by
    unfold resA at h1
    split at h1
    ·rename_i t
     simp only[Option.some.injEq] at h1
     subst h1
     exact⟨_,rfl,hs.env t⟩
    ·rename_i b t
     split at h1
     ·rename_i id off hb
      split at h1
      ·rename_i cs hH
       have hbv:=hs.env b
       rw[hb] at hbv
       obtain⟨blk,arr,e,g1,g2,g3,g4,g5,g6⟩:=hs.chunk id _ hH
       have hres:∀ub,tm.getD b undef=ub→(resOne tm (.cell b t)).run P w=(do loadVar t (←asAddr ub):Sem Value).run P w:=fun ub h=>by
        show (do loadVar t (←asAddr (tm.getD b undef)):Sem Value).run P w=_
        rw[h]
       rw[hres _ rfl]
       generalize tm.getD b undef=ub at hbv ⊢
       cases hbv with
       | ptr _ b' _ hl =>
        rw[g1] at hl
        simp only[Option.some.injEq,Loc.box.injEq] at hl
        subst hl
        obtain⟨u,hru,hua⟩:=zrl (I:=I) (L:=L) (w:=w) (b:=blk) (base:=0) (us:=arr.toList) h1 (by simpa using g3) (fun j u c hu hc=>g4 j u c (by simpa using hu) hc)
         (fun u hu=>by
          obtain⟨j,hj⟩:=List.mem_iff_getElem?.1 hu
          exact g5 j u (by simpa using hj)) (fun j u hu=>by rw[Nat.zero_add,zev g2]; simpa using hu)
        rw[Nat.zero_add] at hru
        exact⟨u,by simp[asAddr,hru],hua⟩
      ·cases h1
     ·cases h1
   obtain⟨u,hru,hua⟩:=one
   refine⟨u :: us,?_,by simp[hu.1],fun j v b hv hb=>?_⟩
   ·simp only[List.mapM_cons,Sem.run_bind,hru,Result.andThen_ok,hr,Sem.run_pure]
   ·cases j with
    | zero=>simp at hv hb; subst hv hb; exact hua
    | succ j=>exact hu.2 j v b (by simpa using hv) (by simpa using hb)
  ·cases h

theorem zon {C : Ctx} {env : Env} {H : za} {tm : Array Value} {w : World} (hs : Sim C env H I L tm w) {fn : Func} {a : AV} (h : resAV P env H fn.results.toList = some a) :
  ∃u,(results fn tm).run P w = .ok u w∧AVR I L u a:=by
 have hres:∀us:List Value,(fn.results.toList.mapM (resOne tm)).run P w = .ok us w→(results fn tm).run P w = .ok (if h:us.toArray.size=1 then us.toArray[0] else .tuple us.toArray) w:=by
  intro us hr
  have e:results fn tm=(do let vs ←fn.results.mapM (resOne tm); pure (if h:vs.size=1 then vs[0] else .tuple vs)):=by
   unfold results
   congr 2
  rw[e,Sem.run_bind,Array.mapM_eq_mapM_toList,Sem.run_map,hr]
  rfl
 unfold resAV at h
 split at h
 ·rename_i a' hl
  simp only[Option.some.injEq] at h
  subst h
  obtain⟨us,hr,hu⟩:=zp9 hs _ _ hl
  refine⟨_,hres us hr,?_⟩
  have hlen:us.length=1:=by simpa using hu.1
  rw[dif_pos (by simpa using hlen)]
  cases us with
  | nil=>simp at hlen
  | cons u r=>exact hu.2 0 u _ rfl rfl
 ·rename_i als hne hl
  simp only[Option.some.injEq] at h
  subst h
  obtain⟨us,hr,hu⟩:=zp9 hs _ _ hl
  refine⟨_,hres us hr,?_⟩
  have hlen:¬ us.length=1:=fun e=>by
   have:als.length=1:=by rw[←hu.1]; exact e
   cases als with
   | nil=>simp at this
   | cons a r =>
    have:r=[]:=by simpa using this
    subst this
    exact hne a rfl
  rw[dif_neg (by simpa using hlen)]
  exact .tup us als hu.1 hu.2
 ·cases h

def Mem.all (I:Mem) (B:Nat) (w:World):Mem:=fun b o=>if b<B then I b o else w.cell? ⟨b,o,none⟩

theorem zf {f : FuncId} {fn : Func} {c : Code} {args : List PV} {Q : PV → Prop} (own : List Nat) (hm : P.follows .mixedOrders = true) (hf : P.funcs[f]? = some fn) (hb : fn.body = some c)
  (hc:callable P f=true) (hn:args.length≤fn.ntmps) (h:cw P fn.ntmps own c (retK P fn.results.toList Q) (argsEnv args) heap0):zh P f args Q:=by
 refine⟨hc,fun I w vs hI hv=>calls_of_wp hf hb ?_⟩
 let C:Ctx:=Ctx.of w I fn.ntmps
 have hlen:vs.length≤fn.ntmps:=by rw[hv.1]; exact hn
 have hs:Sim C (argsEnv args) heap0 I (fun _=>none) (vs.toArray++Array.replicate (fn.ntmps - vs.toArray.size) undef) w :=
  {below:=Below.refl _ _
   mem:=hI
   memC:=Mem.sub_refl I
   memN:=fun _ _ _ _=>rfl
   frame:=fun _ _ _=>rfl
   loc:=fun _=>trivial
   blkF:=fun id l b h=>by cases h
   size:=by simp; show vs.length+(fn.ntmps - vs.length)=fn.ntmps; omega
   env:=fun t=>by
    unfold argsEnv
    split
    ·rename_i x hx
     have ht:t<vs.length:=by rw[hv.1]; exact (List.getElem?_eq_some_iff.1 hx).1
     refine .p _ _ (hv.2 t _ x ?_ hx)
     rw[List.getElem?_eq_getElem ht]
     simp[Array.getElem?_append,ht]
    ·exact .dead _
   dom:=fun id l h=>by cases h
   chunk:=fun id ch h=>by cases h
   blkB:=fun id l b h=>by cases h
   apart:=fun i j li lj b h=>by cases h }
 refine wp_mono (zis hm c _ C rfl _ _ I _ _ w h hs) ?_
 rintro e a w' ⟨hd,env',H',I',L',hk,hs'⟩
 have fin:(match resP P env' H' fn.results.toList with | some r=>Q r | none=>False)→bodyPost P fn (fun e w'=>∃v r I',e = .returned v∧Q r∧VR I' v r∧Below w.heap.size w w'∧I.sub I'∧I'.inW w'∧∀b,b<w.heap.size→∀o,I' b o=I b o) .normal a w':=by
  intro hk
  unfold resP at hk
  split at hk
  ·rename_i r hr
   split at hr
   ·rename_i av hav
    split at hr
    ·rename_i x b hl
     simp only[Option.some.injEq] at hr
     subst hr
     obtain⟨u,hru,hua⟩:=zon hs' hav
     have hsub:I'.sub (I'.all C.B w'):=fun b o u hu=>by
      unfold Mem.all
      split
      ·exact hu
      ·exact hs'.mem b o u hu
     have hsee:Sees L' w' (I'.all C.B w'):=fun id l b hl hlb o u hu=>by
      unfold Mem.all
      rw[if_neg (by have:=(hs'.blkB id l b hl hlb).1; omega)]
      exact hu
     refine⟨hd,u,hru,u,x,I'.all C.B w',rfl,hk,(zbcg hs' (zmb H') hsub (hsee.g H') u av x b hua hl).1,hs'.below,Mem.sub_trans hs'.memC hsub,?_,?_⟩
     ·intro b o u hu
      unfold Mem.all at hu
      split at hu
      ·exact hs'.mem b o u hu
      ·exact hu
     ·intro b hb o
      unfold Mem.all
      rw[if_pos (show b<C.B from hb)]
      exact hs'.memN b hb (fun h=>h) o
    ·cases hr
   ·cases hr
  ·exact hk.elim
 cases e with
 | normal=>exact fin hk
 | ret=>exact fin hk
 | exit id=>exact hk.elim
 | goto l=>exact hk.elim
 | panic c=>exact hk.elim
 | outgrown=>exact hk.elim

mutual
def rvOf (H:za):AV→Option (RV×List Nat)
 | .p x=>some (.p x,[])
 | .row id ver=>match H id with
  | some (.row v e sz es)=>if v=ver then some (.row e sz es,[id]) else none
  | some (.shut v es)=>if v=ver then some (.p (.lst es),[]) else none
  | _=>none
 | .agg cs=>match rvOfL H cs with
  | some (rs,ids)=>some (.agg rs,ids)
  | none=>none
 | .tup cs=>match rvOfL H cs with
  | some (rs,ids)=>some (.tup rs,ids)
  | none=>none
 | _=>none
def rvOfL (H:za):List AV→Option (List RV×List Nat)
 | []=>some ([],[])
 | a :: r=>match rvOf H a,rvOfL H r with
  | some (x,i),some (xs,j)=>some (x :: xs,i++j)
  | _,_=>none
end

inductive RLe:RV→RV→Prop
 | refl (r:RV):RLe r r
 | nil (e:TypeId) (sz:Nat) (h:0<sz):RLe (.p (.val (.slice none 0 0))) (.row e sz [])
 | nilp:RLe (.p (.val (.slice none 0 0))) (.p (.lst []))
 | agg (rs rs':List RV) (hl:rs'.length=rs.length) (h:∀ (j:Nat) r' r,rs'[j]? = some r'→rs[j]? = some r→RLe r' r):RLe (.agg rs') (.agg rs)
 | tup (rs rs':List RV) (hl:rs'.length=rs.length) (h:∀ (j:Nat) r' r,rs'[j]? = some r'→rs[j]? = some r→RLe r' r):RLe (.tup rs') (.tup rs)

def retF (P:Program) (rs:List ResultVar) (Q:RV→Prop):Kont:=fun e env H=>match e with
 | .normal | .ret=>(match resAV P env H rs with
  | some a=>(match rvOf H a with
   | some (r,ids)=>ids.Nodup∧∃r',RLe r r'∧Q r'
   | none=>False)
  | none=>False)
 | _=>False

theorem RLe.sound {r r':RV} (h:RLe r r'):∀ {w:World} {B:Nat} {J:Mem} {u:Value} {bs:List Nat},RVR w B J u r bs→RVR w B J u r' bs:=by
 induction h with
 | refl r=>exact fun h=>h
 | nil e sz hsz =>
  intro w B J u bs h
  cases h with
  | p _ _ h =>
   cases h
   exact .row (.slice none 0 0) e sz [] [] ⟨⟨by simp,.inl ⟨rfl,rfl⟩⟩,hsz,by simp,by simp,by simp,fun b hb=>by simp[Value.ownBlock] at hb⟩ rfl
 | nilp =>
  intro w B J u bs h
  cases h with
  | p _ _ h =>
   cases h
   exact .p _ _ (.lst none 0 0 [] [] 1 rfl (by simp) rfl (by simp) (by simp) (.inl rfl) (fun _=>⟨rfl,rfl⟩) (Nat.le_refl _))
 | agg rs rs' hl h ih =>
  intro w B J u bs hr
  cases hr with
  | agg us _ bs q1 q2 q3 q4 =>
   refine .agg us rs bs (q1.trans hl) q2 (fun j u r b hu hr hb=>?_) q4
   obtain⟨r',hr'⟩:∃r',rs'[j]? = some r':=by
    have hj:j<us.length:=(List.getElem?_eq_some_iff.1 hu).1
    exact⟨rs'[j]'(by omega),by simp[q1 ▸ hj]⟩
   exact ih j r' r hr' hr (q3 j u r' b hu hr' hb)
 | tup rs rs' hl h ih =>
  intro w B J u bs hr
  cases hr with
  | tup us _ bs q1 q2 q3 =>
   refine .tup us rs bs (q1.trans hl) q2 (fun j u r b hu hr hb=>?_)
   obtain⟨r',hr'⟩:∃r',rs'[j]? = some r':=by
    have hj:j<us.length:=(List.getElem?_eq_some_iff.1 hu).1
    exact⟨rs'[j]'(by omega),by simp[q1 ▸ hj]⟩
   exact ih j r' r hr' hr (q3 j u r' b hu hr' hb)

def blksOf (L:zbl):List Nat→List Nat
 | []=>[]
 | id :: r=>(match L id with
  | some l=>l.blk.toList
  | none=>[])++blksOf L r
theorem z33 (L:zbl) (a b:List Nat):blksOf L (a++b)=blksOf L a++blksOf L b:=by
 induction a with
 | nil=>rfl
 | cons x r ih=>simp[blksOf,ih,List.append_assoc]
theorem zqk {L:zbl} : ∀ {ids:List Nat} {b:Nat},b∈blksOf L ids→∃id l,id∈ids∧L id=some l∧l.blk=some b
 | [],b,h=>by simp[blksOf] at h
 | id :: r,b,h=>by
  simp only[blksOf,List.mem_append] at h
  rcases h with h | h
  ·cases hL:L id with
   | none=>rw[hL] at h; cases h
   | some l =>
    rw[hL] at h
    exact⟨id,l,by simp,hL,by simpa using h⟩
  ·obtain⟨i,l,h1,h2⟩:=zqk h
   exact⟨i,l,by simp[h1],h2⟩
theorem zrr {C:Ctx} {H:za} {env:Env} {tm:Array Value} {w:World} (hs:Sim C env H I L tm w):∀ {ids:List Nat},ids.Nodup→(blksOf L ids).Nodup
 | [],_=>by simp[blksOf]
 | id :: r,h=>by
  rw[List.nodup_cons] at h
  simp only[blksOf,List.nodup_append]
  refine⟨?_,zrr hs h.2,?_⟩
  ·cases L id with
   | none=>simp
   | some l=>cases hb:l.blk<;>simp[hb]
  ·intro a ha b hb hab
   subst hab
   obtain⟨i,l,h1,h2,h3⟩:=zqk hb
   cases hL:L id with
   | none=>rw[hL] at ha; cases ha
   | some l' =>
    rw[hL] at ha
    have:=hs.apart id i l' l a hL h2 (by simpa using ha) h3
    subst this
    exact h.1 h1

def RvOk (C:Ctx) (I:Mem) (L:zbl) (w:World) (H:za) (a:AV):Prop :=
 ∀u r ids,AVR I L u a→rvOf H a=some (r,ids)→RVR w C.B I u r (blksOf L ids)
def zbiw (C:Ctx) (I:Mem) (L:zbl) (w:World) (H:za) (als:List AV):Prop :=
 ∀us rs ids,AVRs I L us als→rvOfL H als=some (rs,ids)→us.length=rs.length∧∃bs:List (List Nat),us.length=bs.length∧bs.flatten=blksOf L ids ∧
  ∀ (j:Nat) u r b,us[j]? = some u→rs[j]? = some r→bs[j]? = some b→RVR w C.B I u r b

theorem zbga {C:Ctx} {H:za} {env:Env} {tm:Array Value} {w:World} (hs:Sim C env H I L tm w) (a:AV):RvOk C I L w H a:=by
 refine AV.rec (motive_1:=RvOk C I L w H) (motive_2:=zbiw C I L w H) ?_ ?_ ?_ ?_ ?_ ?_ ?_ ?_ ?_ ?_ a
 ·intro x u r ids hu hr
  simp only[rvOf,Option.some.injEq,Prod.mk.injEq] at hr
  obtain⟨rfl,rfl⟩:=hr
  exact .p _ _ hu.of_p
 ·intro id ver u r ids hu hr
  simp only[rvOf] at hr
  split at hr
  ·rename_i v e sz es hH
   split at hr
   ·rename_i hv
    subst hv
    simp only[Option.some.injEq,Prod.mk.injEq] at hr
    obtain⟨rfl,rfl⟩:=hr
    obtain⟨hdr,us,h1,h2,h3,h4,h5,h6,h7⟩:=hs.chunk id _ hH
    cases hu with
    | row _ _ _ v1 hdr1 sz1 hl hle hh hone =>
     rw[h1] at hl
     simp only[Option.some.injEq,Loc.row.injEq] at hl
     obtain⟨r1,r2,r3⟩:=hl
     subst r1 r2 r3
     have hxe:=hh rfl
     subst hxe
     have hb:blksOf L [id]=u.ownBlock.toList:=by simp[blksOf,h1,Loc.blk]
     rw[hb]
     exact .row u e sz es us ⟨h2,h3,h4,h5,h6,h7⟩ hone
   ·cases hr
  ·rename_i v es hH
   split at hr
   ·rename_i hv
    subst hv
    simp only[Option.some.injEq,Prod.mk.injEq] at hr
    obtain⟨rfl,rfl⟩:=hr
    obtain⟨hdr,sz,h1,h2,_⟩:=hs.chunk id _ hH
    cases hu with
    | row _ _ _ v1 hdr1 sz1 hl hle hh hone =>
     rw[h1] at hl
     simp only[Option.some.injEq,Loc.row.injEq] at hl
     obtain⟨r1,r2,r3⟩:=hl
     subst r1 r2 r3
     rw[hh rfl]
     exact .p _ _ h2
   ·cases hr
  ·cases hr
 ·intro id off u r ids hu hr; simp[rvOf] at hr
 ·intro id ver i off u r ids hu hr; simp[rvOf] at hr
 ·intro cs ih u r ids hu hr
  simp only[rvOf] at hr
  split at hr
  ·rename_i rs ids' hrs
   simp only[Option.some.injEq,Prod.mk.injEq] at hr
   obtain⟨rfl,rfl⟩:=hr
   cases hu with
   | agg us _ hl hv hone =>
    obtain⟨k1,bs,k2,k3,k4⟩:=ih us rs ids' ⟨hl,hv⟩ hrs
    rw[←k3]
    exact .agg us rs bs k1 k2 k4 hone
  ·cases hr
 ·intro cs ih u r ids hu hr
  simp only[rvOf] at hr
  split at hr
  ·rename_i rs ids' hrs
   simp only[Option.some.injEq,Prod.mk.injEq] at hr
   obtain⟨rfl,rfl⟩:=hr
   cases hu with
   | tup us _ hl hv =>
    obtain⟨k1,bs,k2,k3,k4⟩:=ih us rs ids' ⟨hl,hv⟩ hrs
    rw[←k3]
    exact .tup us rs bs k1 k2 k4
  ·cases hr
 ·intro fn fs cs _ _ u r ids hu hr; simp[rvOf] at hr
 ·intro u r ids hu hr; simp[rvOf] at hr
 ·intro us rs ids hu hr
  simp only[rvOfL,Option.some.injEq,Prod.mk.injEq] at hr
  obtain⟨rfl,rfl⟩:=hr
  exact⟨hu.1,[],hu.1,rfl,by simp⟩
 ·intro a als ih1 ih2 us rs ids hu hr
  simp only[rvOfL] at hr
  split at hr
  ·rename_i x i xs j hx hxs
   simp only[Option.some.injEq,Prod.mk.injEq] at hr
   obtain⟨rfl,rfl⟩:=hr
   cases us with
   | nil=>have:=hu.1; simp at this
   | cons u us =>
    obtain⟨k1,bs,k2,k3,k4⟩:=ih2 us xs j ⟨by simpa using hu.1,fun j u c hu' hc=>hu.2 (j+1) u c hu' hc⟩ hxs
    have k0:=ih1 u x i (hu.2 0 u a rfl rfl) hx
    refine⟨by simp[k1],blksOf L i :: bs,by simp[k2],by rw[List.flatten_cons,k3,z33],fun j v r b hv hr hb=>?_⟩
    cases j with
    | zero=>simp at hv hr hb; subst hv hr hb; exact k0
    | succ j=>exact k4 j v r b (by simpa using hv) (by simpa using hr) (by simpa using hb)
  ·cases hr

theorem RVR.low {w:World} {B B':Nat} {J:Mem} {u:Value} {r:RV} {bs:List Nat} (h:RVR w B J u r bs) (hB:B=B'):RVR w B' J u r bs:=hB ▸ h

theorem zbx {f : FuncId} {fn : Func} {c : Code} {args : List PV} {Q : RV → Prop} (own : List Nat) (hm : P.follows .mixedOrders = true) (hf : P.funcs[f]? = some fn) (hb : fn.body = some c)
  (hc:callable P f=true) (hn:args.length≤fn.ntmps) (h:cw P fn.ntmps own c (retF P fn.results.toList Q) (argsEnv args) heap0):zbt P f args Q:=by
 refine⟨hc,fun I w vs hI hv=>calls_of_wp hf hb ?_⟩
 let C:Ctx:=Ctx.of w I fn.ntmps
 have hlen:vs.length≤fn.ntmps:=by rw[hv.1]; exact hn
 have hs:Sim C (argsEnv args) heap0 I (fun _=>none) (vs.toArray++Array.replicate (fn.ntmps - vs.toArray.size) undef) w :=
  {below:=Below.refl _ _
   mem:=hI
   memC:=Mem.sub_refl I
   memN:=fun _ _ _ _=>rfl
   frame:=fun _ _ _=>rfl
   loc:=fun _=>trivial
   blkF:=fun id l b h=>by cases h
   size:=by simp; show vs.length+(fn.ntmps - vs.length)=fn.ntmps; omega
   env:=fun t=>by
    unfold argsEnv
    split
    ·rename_i x hx
     have ht:t<vs.length:=by rw[hv.1]; exact (List.getElem?_eq_some_iff.1 hx).1
     refine .p _ _ (hv.2 t _ x ?_ hx)
     rw[List.getElem?_eq_getElem ht]
     simp[Array.getElem?_append,ht]
    ·exact .dead _
   dom:=fun id l h=>by cases h
   chunk:=fun id ch h=>by cases h
   blkB:=fun id l b h=>by cases h
   apart:=fun i j li lj b h=>by cases h }
 refine wp_mono (zis hm c _ C rfl _ _ I _ _ w h hs) ?_
 rintro e a w' ⟨hd,env',H',I',L',hk,hs'⟩
 have fin:(match resAV P env' H' fn.results.toList with
  | some a=>(match rvOf H' a with
   | some (r,ids)=>ids.Nodup∧∃r',RLe r r'∧Q r'
   | none=>False)
  | none=>False)→bodyPost P fn (fun e w'=>∃v r bs I',e = .returned v∧Q r∧RVR w' w.heap.size I' v r bs∧bs.Nodup∧(∀b∈bs,w.heap.size≤b∧b<w'.heap.size) ∧
   Below w.heap.size w w'∧I.sub I'∧I'.inW w'∧∀b,b<w.heap.size→∀o,I' b o=I b o) .normal a w':=by
  intro hk
  split at hk
  ·rename_i av hav
   split at hk
   ·rename_i r ids hr
    obtain⟨hnd,r',hle,hq⟩:=hk
    obtain⟨u,hru,hua⟩:=zon hs' hav
    exact⟨hd,u,hru,u,r',blksOf L' ids,I',rfl,hq,hle.sound (zbga hs' av u r ids hua hr),zrr hs' hnd,fun b hb=>by
     obtain⟨i,l,_,h2,h3⟩:=zqk hb
     exact hs'.blkB i l b h2 h3,hs'.below,hs'.memC,hs'.mem,fun b hb o=>hs'.memN b hb (fun h=>h) o⟩
   ·exact hk.elim
  ·exact hk.elim
 cases e with
 | normal=>exact fin hk
 | ret=>exact fin hk
 | exit id=>exact hk.elim
 | goto l=>exact hk.elim
 | panic c=>exact hk.elim
 | outgrown=>exact hk.elim

def argsA (als:List AV):Env:=fun t=>match als[t]? with
 | some a=>a
 | none=>.dead
def retM (P:Program) (rs:List ResultVar) (Q:AV→Option zcb→Prop):Kont:=fun e env H=>match e with
 | .normal | .ret=>(match resAV P env H rs with
  | some a=>Q a (H 1000000)
  | none=>False)
 | _=>False

theorem z1a {f : FuncId} {fn : Func} {c : Code} {v : Nat} {e : TypeId} {sz : Nat} {es : List (List PV)} {ps : List PV} {Q : AV → Option zcb → Prop} (own : List Nat) (hm : P.follows .mixedOrders = true) (hf : P.funcs[f]? = some fn) (hb : fn.body = some c)
  (hc:callable P f=true) (hn:ps.length+1≤fn.ntmps) (h:cw P fn.ntmps own c (retM P fn.results.toList Q) (argsA (.row 1000000 v :: ps.map AV.p)) (hset heap0 1000000 (.row v e sz es))):ziu P f v e sz es ps Q:=by
 refine⟨hc,fun B I w hdr us vs hB hI hr h1 hv=>calls_of_wp hf hb ?_⟩
 let C:Ctx:=Ctx.lend w I fn.ntmps B v sz hdr hB
 let L:zbl:=fun i=>if i=1000000 then some (.row v hdr sz) else none
 have hlen:(hdr :: vs).length≤fn.ntmps:=by
  have:=hv.1
  simp only[List.length_cons]; omega
 have hL:∀i l,L i=some l→i=1000000∧l = .row v hdr sz:=fun i l h=>by
  simp only[L] at h
  split at h
  ·rename_i hi; exact⟨hi,by simpa using h.symm⟩
  ·cases h
 have hs:Sim C (argsA (.row 1000000 v :: ps.map AV.p)) (hset heap0 1000000 (.row v e sz es)) I L ((hdr :: vs).toArray++Array.replicate (fn.ntmps - (hdr :: vs).toArray.size) undef) w :=
  {below:=Below.refl _ _
   mem:=hI
   memC:=Mem.sub_refl I
   memN:=fun _ _ _ _=>rfl
   frame:=fun _ _ _=>rfl
   loc:=zcd.refl _
   blkF:=fun id l b hl hb=>by
    obtain⟨_,rfl⟩:=hL id l hl
    exact .inr hb
   size:=by
    simp only[Array.size_append,List.size_toArray,Array.size_replicate]
    show (hdr :: vs).length+(fn.ntmps - (hdr :: vs).length)=fn.ntmps
    omega
   env:=fun t=>by
    unfold argsA
    split
    ·rename_i a ha
     have htl:t<(hdr :: vs).length:=by
      have:=(List.getElem?_eq_some_iff.1 ha).1
      simp only[List.length_cons,List.length_map] at this ⊢
      rw[hv.1]; exact this
     have hget:((hdr :: vs).toArray++Array.replicate (fn.ntmps - (hdr :: vs).toArray.size) undef).getD t undef=(hdr :: vs)[t]:=by
      simp only[Array.getD_eq_getD_getElem?,Array.getElem?_append,List.size_toArray,if_pos htl,List.getElem?_toArray,List.getElem?_eq_getElem htl,Option.getD_some]
     rw[hget]
     cases t with
     | zero =>
      simp at ha
      subst ha
      exact .row hdr 1000000 v v hdr sz (by simp[L]) (Nat.le_refl _) (fun _=>rfl) h1
     | succ t =>
      simp only[List.getElem?_cons_succ,List.getElem?_map] at ha
      cases hp:ps[t]? with
      | none=>rw[hp] at ha; cases ha
      | some p =>
       rw[hp] at ha
       simp only[Option.map_some,Option.some.injEq] at ha
       subst ha
       have htv:t<vs.length:=by simpa using htl
       exact .p _ _ (hv.2 t _ p (by simp[htv]) hp)
    ·exact .dead _
   dom:=fun id l hl=>by
    obtain⟨rfl,_⟩:=hL id l hl
    exact⟨_,by simp[hset]; rfl⟩
   chunk:=fun id ch hch=>by
    unfold hset at hch
    split at hch
    ·rename_i hi
     subst hi
     simp only[Option.some.injEq] at hch
     subst hch
     exact⟨hdr,us,by simp[L],hr.own,hr.pos,hr.all,hr.val,hr.one,hr.free⟩
    ·cases hch
   blkB:=fun id l b hl hb=>by
    obtain⟨_,rfl⟩:=hL id l hl
    exact zmi hr.own hb
   apart:=fun i j li lj b hi hj _ _=>by
    rw[(hL i li hi).1,(hL j lj hj).1] }
 refine wp_mono (zis hm c _ C rfl _ _ I L _ w h hs) ?_
 rintro x a w' ⟨hd,env',H',I',L',hk,hs'⟩
 have fin:(match resAV P env' H' fn.results.toList with
  | some a=>Q a (H' 1000000)
  | none=>False)→bodyPost P fn (fun x w'=>∃u a H' I' L',x = .returned u∧Q a (H' 1000000)∧AVR I' L' u a∧Sim (Ctx.lend w I 0 B v sz hdr hB) env0 H' I' L' #[] w') .normal a w':=by
  intro hk
  split at hk
  ·rename_i av hav
   obtain⟨u,hru,hua⟩:=zon hs' hav
   refine⟨hd,u,hru,u,av,H',I',L',rfl,hk,hua,?_⟩
   exact
   {below:=hs'.below
    mem:=hs'.mem
    memC:=hs'.memC
    memN:=hs'.memN
    frame:=hs'.frame
    loc:=hs'.loc
    blkF:=hs'.blkF
    size:=rfl
    env:=fun t=>.dead _
    dom:=hs'.dom
    chunk:=hs'.chunk
    blkB:=hs'.blkB
    apart:=hs'.apart }
  ·exact hk.elim
 cases x with
 | normal=>exact fin hk
 | ret=>exact fin hk
 | exit id=>exact hk.elim
 | goto l=>exact hk.elim
 | panic c=>exact hk.elim
 | outgrown=>exact hk.elim

end Go.Abs
namespace Go.Abs
open Go.RowKit

section
variable {P:Program} {N:Nat} {own:List Nat} {ops:Array Oper} {K:Env→za→Prop} {env:Env} {H:za}

def walkE (P:Program) (N:Nat) (own:List Nat) (ops:Array Oper) (r:Option (Prop×AV×za)) (o:Oper) (rest:List Oper) (K:Env→za→Prop) (env:Env) (H:za):Prop:=match r with
  | some (pre,v,H')=>pre∧walk P N own ops rest K (putA env o.dst v) H'
  | none=>callK P o (walk P N own ops rest K) env H

def walkG (P:Program) (N:Nat) (own:List Nat) (ops:Array Oper) (g:Option Bool) (o:Oper) (rest:List Oper) (K:Env→za→Prop) (env:Env) (H:za):Prop:=match g with
  | some true=>walkE P N own ops (exAll P own o (ev env) H) o rest K env H
  | some false=>walk P N own ops rest K (putA env o.dst (.tup [])) H
  | none=>False

theorem zbd9:walk P N own ops [] K env H=K env H:=rfl
theorem z64 (o:Oper) (rest:List Oper):walk P N own ops (o :: rest) K env H=(dstOk N o.dst∧walkG P N own ops (guardA ops o env) o rest K env H):=by
  rw[walk]
  unfold walkG walkE
  congr 1
theorem z5p (o:Oper) (rest:List Oper):walkG P N own ops (some true) o rest K env H=walkE P N own ops (exAll P own o (ev env) H) o rest K env H:=rfl
theorem z12 (o:Oper) (rest:List Oper):walkG P N own ops (some false) o rest K env H=walk P N own ops rest K (putA env o.dst (.tup [])) H:=rfl
theorem z3t (pre:Prop) (v:AV) (H':za) (o:Oper) (rest:List Oper):walkE P N own ops (some (pre,v,H')) o rest K env H=(pre∧walk P N own ops rest K (putA env o.dst v) H'):=rfl
theorem z45 (o:Oper) (rest:List Oper):walkE P N own ops none o rest K env H=callK P o (walk P N own ops rest K) env H:=rfl
theorem z4f (d:Nat):dstOk N (some d)=(d<N):=rfl
theorem z3y:dstOk N none=True:=rfl
theorem z83 (d:Nat) (v:AV):putA env (some d) v=upd env d v:=rfl
theorem z7j (v:AV):putA env none v=env:=rfl

theorem z0l (d:Option Tmp) (op:Op) (t:TypeId) (pos:String) (a:Array Edge):guardA ops ⟨d,op,t,pos,a,none⟩ env=some true:=rfl
def guardB (v:AV) (want:Bool):Option Bool:=match v with
  | .p (.val (.bool b))=>some (b == want)
  | .tup []=>some false
  | _=>none
def guardS (d:Option Tmp) (want:Bool) (env:Env):Option Bool:=match d with
  | some d=>guardB (env d) want
  | none=>none
theorem z0q (d:Option Tmp) (op:Op) (t:TypeId) (pos:String) (a:Array Edge) (j:Nat) (want:Bool):guardA ops ⟨d,op,t,pos,a,some (j,want)⟩ env=guardS ((ops[j]?).bind (·.dst)) want env:=by
  unfold guardA guardS guardB
  rfl
theorem z13 (d:Tmp) (want:Bool):guardS (some d) want env=guardB (env d) want:=rfl
theorem z4c (want:Bool):guardB (.tup []) want=some false:=rfl
theorem zbea (b:Bool):guardB (.p (.val (.bool b))) true=some b:=by cases b<;>rfl
theorem zbb8 (b:Bool):guardB (.p (.val (.bool b))) false=some (!b):=by cases b<;>rfl

def up3 (r:Option (Prop×AV)) (H:za):Option (Prop×AV×za):=match r with
  | some (pre,v)=>some (pre,v,H)
  | none=>none
theorem zba4 (pre:Prop) (v:AV):up3 (some (pre,v)) H=some (pre,v,H):=rfl
theorem zbct:up3 none H=none:=rfl

variable (d:Option Tmp) (ty:TypeId) (pos:String) (af:Array Edge) (g:Option (Nat×Bool)) (ρ:Operand→AV)

theorem z89 (own:List Nat) (op:Op) (k:Tmp):exAll P own ⟨some k,op,ty,pos,af,g⟩ ρ H=if own.contains k=true then orE (exN P ⟨some k,op,ty,pos,af,g⟩ ρ H k) (isApp op) (exM P ⟨some k,op,ty,pos,af,g⟩ ρ H) else exM P ⟨some k,op,ty,pos,af,g⟩ ρ H:=rfl
theorem z3r (own:List Nat) (op:Op):exAll P own ⟨none,op,ty,pos,af,g⟩ ρ H=exM P ⟨none,op,ty,pos,af,g⟩ ρ H:=rfl

theorem zba5 (x:Operand):exM P ⟨d,.move x,ty,pos,af,g⟩ ρ H=some (True,ρ x,H):=rfl
theorem z4d (x:Operand):exM P ⟨d,.assign x,ty,pos,af,g⟩ ρ H=some (True,ρ x,H):=rfl
theorem zbbj (c a b:Operand):exM P ⟨d,.pick c a b,ty,pos,af,g⟩ ρ H=up3 (pickX (ρ c) (ρ a) (ρ b)) H:=by
  simp only[exM,exP,exQ,exW,exS,up3]; try (cases pickX (ρ c) (ρ a) (ρ b)<;>rfl)
theorem z1b (x:Operand) (k:Nat):exM P ⟨d,.extract x k,ty,pos,af,g⟩ ρ H=up3 (extractX (ρ x) k) H:=by
  simp only[exM,exP,exQ,exW,exS,up3]; try (cases extractX (ρ x) k<;>rfl)
theorem z8z (op:BinOp) (t u:TypeId) (x y:Operand):exM P ⟨d,.binOp op t x y u,ty,pos,af,g⟩ ρ H=up3 (binX P op t (ρ x) (ρ y)) H:=by
  simp only[exM,exP,exQ,exW,exS,up3]; try (cases binX P op t (ρ x) (ρ y)<;>rfl)
theorem zbca (op:UnOp) (t:TypeId) (x:Operand):exM P ⟨d,.unOp op t x,ty,pos,af,g⟩ ρ H=up3 (unX op (ρ x)) H:=by
  simp only[exM,exP,exQ,exW,exS,up3]; try (cases unX op (ρ x)<;>rfl)
theorem z0k (s e:TypeId) (x:Operand):exM P ⟨d,.convert s e x,ty,pos,af,g⟩ ρ H=up3 (convX P s e (ρ x)) H:=by
  simp only[exM,exP,exQ,exW,exS,up3]; try (cases convX P s e (ρ x)<;>rfl)
theorem zze (fn:Fn) (f c:Array Operand):exM P ⟨d,.makeFunc fn f c,ty,pos,af,g⟩ ρ H=some (True,mkClo fn (f.toList.map ρ) (c.toList.map ρ),H):=rfl
theorem z95 (t:TypeId) (ps:Array (Nat×Operand)):exM P ⟨d,.build t ps,ty,pos,af,g⟩ ρ H=up3 (buildX P t (ps.toList.map fun x=>(x.1,ρ x.2))) H:=by
  simp only[exM,exP,exQ,exW,exS,up3]; try (cases buildX P t (ps.toList.map fun x=>(x.1,ρ x.2))<;>rfl)
theorem zban (t:TypeId) (x i:Operand):exM P ⟨d,.index t x i,ty,pos,af,g⟩ ρ H=up3 (idxX P t (ρ x) (ρ i)) H:=by
  simp only[exM,exP,exQ,exW,exS,up3]; try (cases idxX P t (ρ x) (ρ i)<;>rfl)
theorem z6s (t:TypeId) (x:Operand) (lo hi mx:Option Operand):exM P ⟨d,.slice t x lo hi mx,ty,pos,af,g⟩ ρ H=up3 (sliceX P t (ρ x) (lo.map ρ) (hi.map ρ) (mx.map ρ)) H:=by
  simp only[exM,exP,exQ,exW,exS,up3]; try (cases sliceX P t (ρ x) (lo.map ρ) (hi.map ρ) (mx.map ρ)<;>rfl)
def loadM (P:Program) (t:TypeId) (a:AV) (H:za):Option (Prop×AV×za):=match a with
  | .p (.eptr cs off)=>(match readP P t cs off with | some x=>some (True,.p x,H) | none=>none)
  | .ptr id off => (match H id with
      | some (.box cs)=>match readA P t cs off with | some v=>some (True,v,H) | none=>none
      | _=>none)
  | .rptr id ver i off => (match rowOf H id ver with
      | some es=>match readP P t (es.getD i []) off with | some x=>some (i<es.length∧0<(es.getD i []).length,.p x,H) | none=>none
      | none=>none)
  | _=>none
theorem zbey (t:TypeId) (a:Operand):exM P ⟨d,.load t a,ty,pos,af,g⟩ ρ H=loadM P t (ρ a) H:=by
  simp only[exM,exP,exQ,exW,exS,loadP,loadM]
  generalize ρ a=v
  cases v with
  | p x => cases x <;> simp only []
           case eptr cs off=>cases readP P t cs off<;>rfl
  | ptr id off =>
    simp only[]
    cases H id with
    | none=>rfl
    | some c=>cases c with
      | box cs=>simp only[]; cases readA P t cs off<;>rfl
      | _=>rfl
  | rptr id ver i off =>
    simp only[]
    cases rowOf H id ver with
    | none=>rfl
    | some es=>simp only[]; cases readP P t (es.getD i []) off<;>rfl
  | _=>rfl

def fieldM (P:Program) (f:Option (Nat×Nat)) (a:AV) (H:za):Option (Prop×AV×za):=match f with
  | some (o,n)=>(match a with
    | .p (.eptr cs off)=>some (n≠0,.p (.eptr cs (off+o)),H)
    | .ptr id off=>some (n≠0,.ptr id (off+o),H)
    | .rptr id ver i off=>(match rowOf H id ver with
      | some _=>some (n≠0,.rptr id ver i (off+o),H)
      | none=>none)
    | _=>none)
  | none=>none
theorem zw7 (s:TypeId) (a:Operand) (k:Nat):exM P ⟨d,.fieldAddr s a k,ty,pos,af,g⟩ ρ H=fieldM P (fldOff P s k) (ρ a) H:=by
  simp only[exM,exP,exQ,exW,exS,fieldP,fieldM]
  generalize ρ a=v
  cases fldOff P s k with
  | none=>cases v<;>rfl
  | some x =>
    obtain⟨o,n⟩:=x
    cases v with
    | p x=>cases x<;>rfl
    | rptr id ver i off=>simp only[]; cases rowOf H id ver<;>rfl
    | _=>rfl

def indexM (P:Program) (t:TypeId) (x i:AV) (H:za):Option (Prop×AV×za):=match x with
  | .row id ver=>(match i with
    | .p (.val (.int _ n))=>(match rowOf H id ver,slElem P t with
      | some es,some e=>(match tySize P e with
        | some sz=>some ((0≤n∧n<es.length)∧(es.getD n.toNat []).length=sz∧0<sz,.rptr id ver n.toNat 0,H)
        | none=>none)
      | _,_=>none)
    | _=>none)
  | x=>up3 (indexP P t x i) H
theorem zxc (t:TypeId) (x i:Operand):exM P ⟨d,.indexAddr t x i,ty,pos,af,g⟩ ρ H=indexM P t (ρ x) (ρ i) H:=by
  simp only[exM,exP,exQ,exW,exS,indexM]
  generalize ρ x=v
  generalize ρ i=u
  cases v with
  | row id ver =>
    have:indexP P t (.row id ver) u=none:=by
      unfold indexP; cases u with
      | p y=>cases y with
        | val z=>cases z<;>rfl
        | _=>rfl
      | _=>rfl
    rw[this]
    simp only[]
    cases u with
    | p y=>cases y with
      | val z=>cases z with
        | int k n =>
          simp only[]
          cases rowOf H id ver<;>cases slElem P t<;>simp only[]
          rename_i es e
          cases tySize P e<;>rfl
        | _=>rfl
      | _=>rfl
    | _=>rfl
  | _ =>
    simp only[]
    generalize indexP P t _ u=r
    cases r<;>rfl

theorem z7x (t:TypeId) (a x:Operand):exM P ⟨d,.store t a x,ty,pos,af,g⟩ ρ H=exW P ⟨d,.store t a x,ty,pos,af,g⟩ ρ H:=by
  simp only[exM,exP,exQ,exS]; split<;>simp_all
theorem z8i (t:TypeId):exM P ⟨d,.alloc t,ty,pos,af,g⟩ ρ H=exW P ⟨d,.alloc t,ty,pos,af,g⟩ ρ H:=by
  simp only[exM,exP,exQ,exS]; split<;>simp_all
theorem zbgo (t:TypeId) (x:Operand):exM P ⟨d,.box t x,ty,pos,af,g⟩ ρ H=exW P ⟨d,.box t x,ty,pos,af,g⟩ ρ H:=by
  simp only[exM,exP,exQ,exS]; split<;>simp_all

theorem zvj (f:Operand) (args:Array Operand) (ts:Array TypeId):exM P ⟨d,.call ⟨.value f,args,ts⟩,ty,pos,af,g⟩ ρ H=none:=rfl

def lenM (P:Program) (t:TypeId) (a:AV) (H:za):Option (Prop×AV×za):=match a with
  | .row id ver=>(match rowOf H id ver with
    | some es=>up3 (lenX P t (.p (.lst es))) H
    | none=>none)
  | a=>up3 (lenX P t a) H
theorem zbhb (t:TypeId) (a:Operand):exM P ⟨d,.call ⟨.builtin .len,#[a],#[t]⟩,ty,pos,af,g⟩ ρ H=lenM P t (ρ a) H:=by
  simp only[exM,exP,exQ,exW,exS,lenM,builtinX,List.map_cons,List.map_nil]
  generalize ρ a=v
  cases v with
  | row id ver =>
    have:lenX P t (.row id ver)=none:=rfl
    rw[this]
    simp only[]
    cases rowOf H id ver with
    | none=>rfl
    | some es =>
      simp only[]
      generalize lenX P t _=r
      cases r<;>rfl
  | _ =>
    simp only[]
    generalize lenX P t _=r
    cases r<;>rfl

def appM (P:Program) (t1 t2:TypeId) (a b:AV) (H:za):Option (Prop×AV×za):=match appP P t1 t2 a b with
  | some (pre,v)=>some (pre,v,H)
  | none=>appW P t1 t2 a b H
theorem zue (t1 t2:TypeId) (a b:Operand):exM P ⟨d,.call ⟨.builtin .append,#[a,b],#[t1,t2]⟩,ty,pos,af,g⟩ ρ H=appM P t1 t2 (ρ a) (ρ b) H:=by
  simp only[exM,exP,exQ,exW,exS,appM,builtinX,List.map_cons,List.map_nil]
  cases appP P t1 t2 (ρ a) (ρ b) with
  | some r=>rfl
  | none=>simp only[]; cases appW P t1 t2 (ρ a) (ρ b) H<;>rfl

def bsliceM (P:Program) (t:TypeId) (n:Nat) (parts:List (Nat×AV)) (H:za):Option (Prop×AV×za):=match bsliceE P t n parts with
  | some (_,es)=>(match n with
    | 0=>some (True,.p .emp,H)
    | _=>some (True,.p (.lst es),H))
  | none=>match bsliceE P t n (parts.map fun x=>(x.1,shutV (sealIds (rowIds parts) H) x.2)) with
    | some (_,es)=>some (True,.p (.lst es),sealIds (rowIds parts) H)
    | none=>none
theorem zvm (t:TypeId) (n:Nat) (ps:Array (Nat×Operand)):exM P ⟨d,.buildSlice t n ps,ty,pos,af,g⟩ ρ H=bsliceM P t n (ps.toList.map fun x=>(x.1,ρ x.2)) H:=by
  simp only[exM,exP,exQ,exW,exS,bsliceM]
  cases bsliceE P t n (ps.toList.map fun x=>(x.1,ρ x.2)) with
  | some r=>obtain⟨e,es⟩:=r; cases n<;>rfl
  | none=>rfl
end

section
variable {P:Program} {N:Nat} {own:List Nat} {K:Kont} {env:Env} {H:za}

def seqK (P:Program) (N:Nat) (own:List Nat) (b:Code) (K:Kont):Kont:=fun x e' H'=>match x with
  | .normal=>cw P N own b K e' H'
  | x=>K x e' H'
def blockK (id:Nat) (K:Kont):Kont:=fun x e' H'=>match x with
  | .exit id'=>if id'=id then K .normal e' H' else K (.exit id') e' H'
  | x=>K x e' H'
def condC (P:Program) (N:Nat) (own:List Nat) (v:AV) (a b:Code) (K:Kont) (env:Env) (H:za):Prop:=condWith (cw P N own a K env H) (cw P N own b K env H) v
def loopC (P:Program) (N:Nat) (own:List Nat) (c:Code) (K:Kont) (env:Env) (H:za):Prop:=loopWith (cw P N own c) K env H

theorem zbhk:cw P N own .skip K env H=K .normal env H:=rfl
theorem z8a (id:Nat) (l:List Oper):cw P N own (.region id l.toArray false) K env H=walk P N own l.toArray l (K .normal) env H:=rfl
theorem zbfw (id:Nat) (l:List Oper):cw P N own (.region id l.toArray true) K env H=drawW P N own l.toArray (K .normal) env H:=rfl
theorem zbh7 (a b:Code):cw P N own (.seq a b) K env H=cw P N own a (seqK P N own b K) env H:=rfl
theorem zbg0 (c:Operand) (a b:Code):cw P N own (.cond c a b) K env H=condC P N own (ev env c) a b K env H:=rfl
theorem zbev (id:Nat) (c:Code):cw P N own (.block id c) K env H=cw P N own c (blockK id K) env H:=rfl
theorem zbft (c:Code):cw P N own (.loop c) K env H=loopC P N own c K env H:=rfl
theorem zbhl (id:Nat):cw P N own (.exit id) K env H=K (.exit id) env H:=rfl
theorem zbh5:cw P N own .ret K env H=K .ret env H:=rfl
theorem z0x (b:Code):seqK P N own b K .normal env H=cw P N own b K env H:=rfl
theorem z59 (b:Code) (id:Nat):seqK P N own b K (.exit id) env H=K (.exit id) env H:=rfl
theorem zbby (b:Code):seqK P N own b K .ret env H=K .ret env H:=rfl
theorem zxi (id:Nat):blockK id K .normal env H=K .normal env H:=rfl
theorem z05 (id id':Nat):blockK id K (.exit id') env H=if id'=id then K .normal env H else K (.exit id') env H:=rfl
theorem z4u (id:Nat):blockK id K .ret env H=K .ret env H:=rfl
theorem z35 (a b:Code):condC P N own (.p (.val (.bool true))) a b K env H=cw P N own a K env H:=by simp[condC,condWith]
theorem zz7 (a b:Code):condC P N own (.p (.val (.bool false))) a b K env H=cw P N own b K env H:=by simp[condC,condWith]
theorem zc {b:Bool} {x y:Code} (h1:b=true→cw P N own x K env H) (h2:b=false→cw P N own y K env H):condC P N own (.p (.val (.bool b))) x y K env H:=⟨h1,h2⟩

def retW (r:Option PV) (Q:PV→Prop):Prop:=match r with
  | some r=>Q r
  | none=>False
theorem zbbh (rs:List ResultVar) (Q:PV→Prop):retK P rs Q .ret env H=retW (resP P env H rs) Q:=rfl
theorem zbae (r:PV) (Q:PV→Prop):retW (some r) Q=Q r:=rfl

theorem zbif (t:Tmp):ev env (.tmp t)=env t:=rfl
theorem zbhv (k:IntKind) (n:Int):ev env (.const (.int k n)) = .p (.val (.int k n)):=rfl
theorem zbgw (b:Bool):ev env (.const (.bool b)) = .p (.val (.bool b)):=rfl
theorem zbaf (b:ByteArray):ev env (.const (.string b)) = .p (.val (.string b)):=rfl
theorem zbcf (a:Option Addr) (n c:Nat):ev env (.const (.slice a n c)) = .p (.val (.slice a n c)):=rfl
theorem zbf7 (f:FuncId):ev env (.func f) = .p (.clo (.func f) [] []):=rfl

theorem argsEnv0:argsEnv []=env0:=by funext t; simp[argsEnv,env0]
theorem argsEnv1 (a:PV):argsEnv [a]=upd env0 0 (.p a):=by
  funext t; unfold argsEnv upd env0; rcases t with _ | t<;>simp
theorem argsEnv2 (a b:PV):argsEnv [a,b]=upd (upd env0 0 (.p a)) 1 (.p b):=by
  funext t; unfold argsEnv upd env0; rcases t with _ | _ | t<;>simp
theorem argsEnv3 (a b c:PV):argsEnv [a,b,c]=upd (upd (upd env0 0 (.p a)) 1 (.p b)) 2 (.p c):=by
  funext t; unfold argsEnv upd env0; rcases t with _ | _ | _ | t<;>simp
theorem argsEnv4 (a b c d:PV):argsEnv [a,b,c,d]=upd (upd (upd (upd env0 0 (.p a)) 1 (.p b)) 2 (.p c)) 3 (.p d):=by
  funext t; unfold argsEnv upd env0; rcases t with _ | _ | _ | _ | t<;>simp
end

end Go.Abs
namespace Go.Abs
open Go.RowKit

section
variable {P:Program} {t:TypeId} {k:IntKind} {a b:Int}
theorem zbb6:binX P .add t (.p (.val (.int k a))) (.p (.val (.int k b)))=some (True,.p (.val (.int k (k.wrap (a+b))))):=by simp[binX,binV]
theorem zbe2:binX P .sub t (.p (.val (.int k a))) (.p (.val (.int k b)))=some (True,.p (.val (.int k (k.wrap (a - b))))):=by simp[binX,binV]
theorem zbb9:binX P .mul t (.p (.val (.int k a))) (.p (.val (.int k b)))=some (True,.p (.val (.int k (k.wrap (a * b))))):=by simp[binX,binV]
theorem zbdh:binX P .eql t (.p (.val (.int k a))) (.p (.val (.int k b)))=some (True,.p (.val (.bool (decide (a=b))))):=by simp[binX,binV]
theorem zbcd:binX P .neq t (.p (.val (.int k a))) (.p (.val (.int k b)))=some (True,.p (.val (.bool (!decide (a=b))))):=by simp[binX,binV]
theorem zbek:binX P .lss t (.p (.val (.int k a))) (.p (.val (.int k b)))=some (True,.p (.val (.bool (decide (a<b))))):=by simp[binX,binV]
theorem zbem:binX P .leq t (.p (.val (.int k a))) (.p (.val (.int k b)))=some (True,.p (.val (.bool (decide (a≤b))))):=by simp[binX,binV]
theorem zbbb:binX P .gtr t (.p (.val (.int k a))) (.p (.val (.int k b)))=some (True,.p (.val (.bool (decide (b<a))))):=by simp[binX,binV]
theorem zbcn:binX P .geq t (.p (.val (.int k a))) (.p (.val (.int k b)))=some (True,.p (.val (.bool (decide (b≤a))))):=by simp[binX,binV]
theorem zbco {k':IntKind} : binX P .shr t (.p (.val (.int k a))) (.p (.val (.int k' b)))=some (0≤b,.p (.val (.int k (a.fdiv (2 ^ (min b.toNat k.bits)))))):=by simp[binX,binV]
theorem z9a {x y:ByteArray} : binX P .eql t (.p (.val (.string x))) (.p (.val (.string y)))=some (True,.p (.val (.bool (decide (x=y))))):=by simp[binX,binV]
theorem zbel {es:List (List PV)} (h:isSlice P t=true):binX P .eql t (.p (.lst es)) (.p (.val (.slice none 0 0)))=some (es≠[],.p (.val (.bool false))):=by simp[binX,h]
theorem z6c {ao:Option Addr} {n c:Nat} (h:isSlice P t=true):binX P .eql t (.p (.val (.slice ao n c))) (.p (.val (.slice none 0 0)))=some (True,.p (.val (.bool ao.isNone))):=by
 unfold isSlice at h
 unfold binX binV
 split at h
 ·rename_i e he; simp[he]
 ·cases h
def tyBool (P:Program) (t:TypeId):Bool:=match P.underlying t with
 | some .bool=>true
 | _=>false
theorem z9f {x y:Bool} (h:tyBool P t=true):binX P .eql t (.p (.val (.bool x))) (.p (.val (.bool y)))=some (True,.p (.val (.bool (x == y)))):=by
 unfold tyBool at h
 unfold binX binV
 split at h
 ·rename_i he; simp[he]
 ·cases h
def eqX (op:BinOp) (r:Option Bool):Option (Prop×AV):=match op,r with
 | .eql,some b=>some (True,.p (.val (.bool b)))
 | .neq,some b=>some (True,.p (.val (.bool !b)))
 | _,_=>none
theorem zbfl (b:Bool):eqX .eql (some b)=some (True,.p (.val (.bool b))):=rfl
theorem zbg6 (b:Bool):eqX .neq (some b)=some (True,.p (.val (.bool !b))):=rfl
theorem zbb3 {op:BinOp} {cs ds:List PV} {ks:List BK} (h:structK P t=some ks):binX P op t (.p (.agg cs)) (.p (.agg ds))=eqX op (eqK ks cs ds):=by
 unfold binX eqX
 simp only[h]
 try rfl
theorem zbhh:eqK [] [] []=some true:=rfl
def eqAnd (b:Bool) (r:Option Bool):Option Bool:=match r with
 | some r=>some (b&&r)
 | none=>none
theorem z3k (a b:Bool):eqAnd a (some b)=some (a&&b):=rfl
theorem zbis (ks:List BK) (k:IntKind) (a b:Int) (cs ds:List PV):eqK (.i :: ks) (.val (.int k a) :: cs) (.val (.int k b) :: ds)=eqAnd (decide (a=b)) (eqK ks cs ds):=by
 simp only[eqK,if_true,eqAnd]
 cases eqK ks cs ds<;>rfl
theorem zbg1 {x:Bool} : unX .not (.p (.val (.bool x)))=some (True,.p (.val (.bool !x))):=rfl
theorem z5z {x y:AV} : pickX (.p (.val (.bool true))) x y=some (True,x):=rfl
theorem z0n {x y:AV} : pickX (.p (.val (.bool false))) x y=some (True,y):=rfl
theorem z4e (vs:List PV) (n:Nat):extractX (.p (.tup vs)) n=(match vs[n]? with | some x=>some (True,.p x) | none=>none):=rfl
theorem z5s (vs:List AV) (n:Nat):extractX (.tup vs) n=(match vs[n]? with | some x=>some (True,x) | none=>none):=rfl

theorem z4s (H:za) (cs:List PV) (off:Nat):loadM P t (.p (.eptr cs off)) H=(match readP P t cs off with | some x=>some (True,.p x,H) | none=>none):=rfl
def boxLoad (P:Program) (t:TypeId) (c:Option zcb) (off:Nat) (H:za):Option (Prop×AV×za):=match c with
 | some (.box cs)=>(match readA P t cs off with | some v=>some (True,v,H) | none=>none)
 | _=>none
theorem zbac (H:za) (id off:Nat):loadM P t (.ptr id off) H=boxLoad P t (H id) off H:=rfl
theorem z1c (H:za) (cs:List AV) (off:Nat):boxLoad P t (some (.box cs)) off H=(match readA P t cs off with | some v=>some (True,v,H) | none=>none):=rfl
theorem z5h (H : za) (id ver i off : Nat) : loadM P t (.rptr id ver i off) H = (match rowOf H id ver with
   | some es=>(match readP P t (es.getD i []) off with | some x=>some (i<es.length∧0<(es.getD i []).length,.p x,H) | none=>none)
   | none=>none):=rfl
def rdA (g:Option Bool) (n:Option Nat) (cs:List AV) (off:Nat):Option AV:=match g with
 | some true=>(match n with
  | some n=>if off+n≤cs.length then some (mkAgg ((cs.drop off).take n)) else none
  | none=>none)
 | some false=>cs[off]?
 | none=>none
def rdP (g:Option Bool) (n:Option Nat) (cs:List PV) (off:Nat):Option PV:=match g with
 | some true=>(match n with
  | some n=>if off+n≤cs.length then some (.agg ((cs.drop off).take n)) else none
  | none=>none)
 | some false=>cs[off]?
 | none=>none
theorem zbcc {cs:List AV} {off:Nat} : readA P t cs off=rdA (tyAgg P t) (tySize P t) cs off:=rfl
theorem zbeo {cs:List PV} {off:Nat} : readP P t cs off=rdP (tyAgg P t) (tySize P t) cs off:=rfl
theorem zbgk {cs:List AV} {off:Nat} {n:Option Nat} : rdA (some false) n cs off=cs[off]?:=rfl
theorem zbfz {cs:List PV} {off:Nat} {n:Option Nat} : rdP (some false) n cs off=cs[off]?:=rfl
theorem zbhd {cs:List AV} {off n:Nat} : rdA (some true) (some n) cs off=if off+n≤cs.length then some (mkAgg ((cs.drop off).take n)) else none:=rfl
theorem zbge {cs:List PV} {off n:Nat} : rdP (some true) (some n) cs off=if off+n≤cs.length then some (.agg ((cs.drop off).take n)) else none:=rfl

theorem z0u (H:za) (o n:Nat) (cs:List PV) (off:Nat):fieldM P (some (o,n)) (.p (.eptr cs off)) H=some (n≠0,.p (.eptr cs (off+o)),H):=rfl
theorem z4x (H:za) (o n:Nat) (id off:Nat):fieldM P (some (o,n)) (.ptr id off) H=some (n≠0,.ptr id (off+o),H):=rfl
theorem z0y (H : za) (o n : Nat) (id ver i off : Nat) : fieldM P (some (o, n)) (.rptr id ver i off) H = (match rowOf H id ver with
   | some _=>some (n≠0,.rptr id ver i (off+o),H)
   | none=>none):=rfl

def idxL (e:Option TypeId) (sz:TypeId→Option Nat) (es:List (List PV)) (a:Int) (H:za):Option (Prop×AV×za):=match e with
 | some e=>(match sz e with
  | some sz=>some ((0≤a∧a<es.length)∧(es.getD a.toNat []).length=sz∧0<sz,.p (.eptr (es.getD a.toNat []) 0),H)
  | none=>none)
 | none=>none
theorem z38 {H:za} {es:List (List PV)} : indexM P t (.p (.lst es)) (.p (.val (.int k a))) H=idxL (slElem P t) (tySize P) es a H:=by
 unfold indexM indexP idxL up3
 cases slElem P t with
 | none=>rfl
 | some e=>simp only[]; cases tySize P e<;>rfl
theorem z88 {e : TypeId} {f : TypeId → Option Nat} {es : List (List PV)} {H : za} : idxL (some e) f es a H = (match f e with
  | some sz=>some ((0≤a∧a<es.length)∧(es.getD a.toNat []).length=sz∧0<sz,.p (.eptr (es.getD a.toNat []) 0),H)
  | none=>none):=rfl
def idxR (r:Option (List (List PV))) (e:Option TypeId) (sz:TypeId→Option Nat) (id ver:Nat) (a:Int) (H:za):Option (Prop×AV×za):=match r,e with
 | some es,some e=>(match sz e with
  | some sz=>some ((0≤a∧a<es.length)∧(es.getD a.toNat []).length=sz∧0<sz,.rptr id ver a.toNat 0,H)
  | none=>none)
 | _,_=>none
theorem z4h {H:za} {id ver:Nat} : indexM P t (.row id ver) (.p (.val (.int k a))) H=idxR (rowOf H id ver) (slElem P t) (tySize P) id ver a H:=by
 unfold indexM idxR
 rfl
theorem z9u {es : List (List PV)} {e : TypeId} {f : TypeId → Option Nat} {id ver : Nat} {H : za} : idxR (some es) (some e) f id ver a H = (match f e with
  | some sz=>some ((0≤a∧a<es.length)∧(es.getD a.toNat []).length=sz∧0<sz,.rptr id ver a.toNat 0,H)
  | none=>none):=rfl
theorem zbdc (H:za) (id ver:Nat):rowOf H id ver=(match H id with
 | some (.row v _ _ es)=>if v=ver then some es else none
 | some (.shut v es)=>if v=ver then some es else none
 | some (.tail v _ _ es)=>if v=ver then some es else none
 | _=>none):=rfl

theorem zbc3 {H:za} {es:List (List PV)} (h:isSlice P t=true):lenM P t (.p (.lst es)) H=some (True,.p (.val (.int .i64 es.length)),H):=by simp[lenM,lenX,h,up3]
theorem zbe5 {H:za} {s:ByteArray} (h:tyStr P t=true):lenM P t (.p (.val (.string s))) H=some (True,.p (.val (.int .i64 s.size)),H):=by simp[lenM,lenX,h,up3]
theorem zbb4 {H : za} {id ver : Nat} (h : isSlice P t = true) : lenM P t (.row id ver) H = (match rowOf H id ver with
  | some es=>some (True,.p (.val (.int .i64 es.length)),H)
  | none=>none):=by
 simp only[lenM,lenX,h]
 cases rowOf H id ver<;>rfl
theorem zba2 {s:ByteArray} (h:tyStr P t=true):idxX P t (.p (.val (.string s))) (.p (.val (.int k a)))=some (0≤a∧a<s.size,.p (.val (.int .u8 (sbyte s a.toNat)))):=by simp[idxX,h]
def cvI (b:Bool) (d:Option IntKind) (a:Int):Option (Prop×AV):=match b,d with
 | true,some k=>some (True,.p (.val (.int k (k.wrap a))))
 | _,_=>none
theorem z7g {s:TypeId} : convX P s t (.p (.val (.int k a)))=cvI (P.underlying s).isSome (tyInt P t) a:=by
 unfold convX cvI
 cases (P.underlying s).isSome<;>cases tyInt P t<;>rfl
theorem zbc7 {k:IntKind} : cvI true (some k) a=some (True,.p (.val (.int k (k.wrap a)))):=rfl

def storeM (P : Program) (t : TypeId) (a v : AV) (H : za) : Option (Prop × AV × za) := match tySize P t with
  | some n => if (avCells v).length = n ∧ (avCells v).all avOne = true then (match a with
    | .ptr id off=>(match H id with
     | some (.box cs)=>if off+n≤cs.length then some (True,.dead,hset H id (.box (splice cs off (avCells v)))) else none
     | _=>none)
    | .rptr id ver i off=>(match H id,allP (avCells v) with
     | some (.row v0 e sz es),some ps=>if v0=ver then some (i<es.length∧off+n≤sz,.dead,hset H id (.row v0 e sz (es.set i (splice (es.getD i []) off ps)))) else none
     | _,_=>none)
    | _=>none)
   else none
  | none=>none
theorem z5y (d:Option Tmp) (ty:TypeId) (pos:String) (af:Array Edge) (g:Option (Nat×Bool)) (ρ:Operand→AV) (H:za) (x y:Operand):exM P ⟨d,.store t x y,ty,pos,af,g⟩ ρ H=storeM P t (ρ x) (ρ y) H:=by
 rw[z7x]; rfl

def boxM (d : Option Tmp) (v : AV) (H : za) : Option (Prop × AV × za) := match d with
  | some d=>(match H d with
   | none=>if (avCells v).all avOne=true then some (True,.ptr d 0,hset H d (.box (avCells v))) else none
   | some _=>none)
  | none=>none
theorem zbdl (d:Option Tmp) (ty:TypeId) (pos:String) (af:Array Edge) (g:Option (Nat×Bool)) (ρ:Operand→AV) (H:za) (x:Operand):exM P ⟨d,.box t x,ty,pos,af,g⟩ ρ H=boxM d (ρ x) H:=by
 rw[zbgo]; rfl
def allocM (P : Program) (d : Option Tmp) (e : TypeId) (H : za) : Option (Prop × AV × za) := match d with
  | some d=>(match H d,tyZero P e with
   | none,some zs=>if zs.all (·.oneCell')=true then some (True,.ptr d 0,hset H d (.box (zs.map fun z=>.p (.val z)))) else none
   | _,_=>none)
  | none=>none
theorem z5c (d:Option Tmp) (ty:TypeId) (pos:String) (af:Array Edge) (g:Option (Nat×Bool)) (ρ:Operand→AV) (H:za) (e:TypeId):exM P ⟨d,.alloc e,ty,pos,af,g⟩ ρ H=allocM P d e H:=by
 rw[z8i]; rfl

def bslA (P:Program) (e:Option TypeId) (n:Nat) (parts:List (Nat×AV)):Option (TypeId×List (List PV)):=match e with
 | some e=>(match tySize P e,tyZero P e with
  | some sz, some zs => if zs.length = sz ∧ 0 < sz ∧ n * sz ≤ 16777216 ∧ zs.all (·.oneCell') = true then
    (match fillA (fun i=>some (i * sz,sz)) (zeroBase zs n) parts with
    | some cs=>(match allP cs with
     | some ps=>if ps.length=n * sz then some (e,chunk sz n ps) else none
     | none=>none)
    | none=>none)
   else none
  | _,_=>none)
 | none=>none
theorem z3i (n:Nat) (parts:List (Nat×AV)):bsliceE P t n parts=bslA P (slElem P t) n parts:=rfl
theorem z56 (e : TypeId) (n : Nat) (parts : List (Nat × AV)) : bslA P (some e) n parts = (match tySize P e, tyZero P e with
  | some sz, some zs => if zs.length = sz ∧ 0 < sz ∧ n * sz ≤ 16777216 ∧ zs.all (·.oneCell') = true then
    (match fillA (fun i=>some (i * sz,sz)) (zeroBase zs n) parts with
    | some cs=>(match allP cs with
     | some ps=>if ps.length=n * sz then some (e,chunk sz n ps) else none
     | none=>none)
    | none=>none)
   else none
  | _,_=>none):=rfl
theorem z3j (n:Nat) (parts:List (Nat×AV)) (H:za):bsliceM P t n parts H=(match bsliceE P t n parts with
 | some (_,es)=>(match n with
  | 0=>some (True,.p .emp,H)
  | _=>some (True,.p (.lst es),H))
 | none=>(match bsliceE P t n (parts.map fun x=>(x.1,shutV (sealIds (rowIds parts) H) x.2)) with
  | some (_,es)=>some (True,.p (.lst es),sealIds (rowIds parts) H)
  | none=>none)):=rfl
def fillB (place : Nat → Option (Nat × Nat)) (p : Option (Nat × Nat)) (cells : List AV) (v : AV) (rest : List (Nat × AV)) : Option (List AV) := match p with
  | some (off,size)=>if (avCells v).length=size∧off+size≤cells.length∧(avCells v).all avOne=true then fillA place (splice cells off (avCells v)) rest else none
  | none=>none
theorem z9o (place:Nat→Option (Nat×Nat)) (cells:List AV):fillA place cells []=some cells:=rfl
theorem z3s (place:Nat→Option (Nat×Nat)) (cells:List AV) (i:Nat) (v:AV) (rest:List (Nat×AV)):fillA place cells ((i,v) :: rest)=fillB place (place i) cells v rest:=by
 simp only[fillA,fillB]; try rfl
theorem z4r (place:Nat→Option (Nat×Nat)) (cells:List AV) (off size:Nat) (v:AV) (rest:List (Nat×AV)):fillB place (some (off,size)) cells v rest=if (avCells v).length=size∧off+size≤cells.length∧(avCells v).all avOne=true then fillA place (splice cells off (avCells v)) rest else none:=rfl
theorem zxa (zs:List Value):zeroBase zs 0=[]:=rfl
theorem zxb (zs:List Value) (n:Nat):zeroBase zs (n+1)=(zs.map fun z=>AV.p (.val z))++zeroBase zs n:=by simp[zeroBase,List.replicate_succ]
theorem z3h {α:Type} (sz:Nat) (l:List α):chunk sz 0 l=[]:=rfl
theorem z3l {α:Type} (sz n:Nat) (l:List α):chunk sz (n+1) l=l.take sz :: chunk sz n (l.drop sz):=rfl
def bldA (z:Option (List Value)) (pl:Option (List (Nat×Nat))) (parts:List (Nat×AV)):Option (Prop×AV):=match z,pl with
 | some zs, some pl => if zs.all (·.oneCell') = true then
   (match fillA (fun i=>pl[i]?) (zs.map fun z=>.p (.val z)) parts with
   | some cs=>some (True,mkAgg cs)
   | none=>none)
  else none
 | _,_=>none
theorem zbaj (parts:List (Nat×AV)):buildX P t parts=bldA (tyZero P t) (tyPlaces P t) parts:=rfl
theorem z7s (zs : List Value) (pl : List (Nat × Nat)) (parts : List (Nat × AV)) : bldA (some zs) (some pl) parts = if zs.all (·.oneCell') = true then
   (match fillA (fun i=>pl[i]?) (zs.map fun z=>.p (.val z)) parts with
   | some cs=>some (True,mkAgg cs)
   | none=>none)
  else none:=rfl
theorem zbgx (k:IntKind) (n:Int):Value.oneCell' (.int k n)=true:=rfl
theorem zbdb (b:Bool):Value.oneCell' (.bool b)=true:=rfl
theorem z3w (b:ByteArray):Value.oneCell' (.string b)=true:=rfl
theorem z7l (a:Option Addr) (n c:Nat):Value.oneCell' (.slice a n c)=true:=rfl
def appA (ty:Option (TypeId×Nat×Nat)) (a b:AV) (H:za):Option (Prop×AV×za):=match ty with
 | some (e',sz',by')=>(match a with
  | .row id ver=>(match H id with
   | some (.row v e sz es) => if v = ver ∧ e = e' ∧ sz = sz' then (match srcOf H b with
     | some ns=>some ((es.length+ns.length) * by'≤140737488355328∧∀x∈ns,x.length=sz,.row id (ver+1),hset H id (.row (ver+1) e sz (es++ns)))
     | none=>none)
    else none
   | _=>none)
  | _=>none)
 | none=>none
theorem zx8 (t1 t2:TypeId) (id ver:Nat) (b:AV) (H:za):appM P t1 t2 (.row id ver) b H=appA (appTypes P t1 t2) (.row id ver) b H:=by
 unfold appM appP appW appA
 simp only[isNil]
 cases appTypes P t1 t2 with
 | none=>rfl
 | some x=>rfl
theorem zbao (H:za) (ns:List (List PV)):srcOf H (.p (.lst ns))=some ns:=rfl
theorem z9k (H:za) (ao:Option Addr) (c:Nat):srcOf H (.p (.val (.slice ao 0 c)))=some []:=rfl
theorem zyf (e' : TypeId) (sz' by' : Nat) (id ver : Nat) (b : AV) (H : za) : appA (some (e', sz', by')) (.row id ver) b H = (match H id with
   | some (.row v e sz es) => if v = ver ∧ e = e' ∧ sz = sz' then (match srcOf H b with
     | some ns=>some ((es.length+ns.length) * by'≤140737488355328∧∀x∈ns,x.length=sz,.row id (ver+1),hset H id (.row (ver+1) e sz (es++ns)))
     | none=>none)
    else none
   | _=>none):=rfl
def appN (ty:Option (TypeId×Nat×Nat)) (es:List (List PV)) (H:za):Option (Prop×AV×za):=match ty with
 | some (_,sz,by')=>some (es.length * by'≤140737488355328∧∀x∈es,x.length=sz,.p (.lst es),H)
 | none=>none
theorem z73 (e':TypeId) (sz' by':Nat) (es:List (List PV)) (H:za):appN (some (e',sz',by')) es H=some (es.length * by'≤140737488355328∧∀x∈es,x.length=sz',.p (.lst es),H):=rfl
theorem zba1 (t1 t2:TypeId) (es:List (List PV)) (H:za):appM P t1 t2 (.p .emp) (.p (.lst es)) H=appN (appTypes P t1 t2) es H:=by
 unfold appM appP appW appN
 simp only[isNil]
 cases appTypes P t1 t2 with
 | none=>rfl
 | some x=>rfl
theorem zber (t1 t2:TypeId) (es:List (List PV)) (H:za):appM P t1 t2 (.p (.val (.slice none 0 0))) (.p (.lst es)) H=appN (appTypes P t1 t2) es H:=by
 unfold appM appP appW appN
 simp only[isNil]
 cases appTypes P t1 t2 with
 | none=>rfl
 | some x=>rfl

theorem zbcx (cs:List AV):mkAgg cs=(match allP cs with | some ps=>.p (.agg ps) | none=>.agg cs):=rfl
theorem zbeb:allP []=some []:=rfl
theorem zbh4 (x:PV) (r:List AV):allP (.p x :: r)=(match allP r with | some ps=>some (x :: ps) | none=>none):=rfl
theorem zbbc (i v:Nat) (r:List AV):allP (.row i v :: r)=none:=rfl
theorem zbbi (i v:Nat) (r:List AV):allP (.ptr i v :: r)=none:=rfl
theorem z11 (cs:List AV):avCells (.agg cs)=cs:=rfl
theorem zy9 (cs:List PV):avCells (.p (.agg cs))=cs.map AV.p:=rfl
theorem z07 (v:Value):avCells (.p (.val v))=[.p (.val v)]:=rfl
theorem zz8 (v:List (List PV)):avCells (.p (.lst v))=[.p (.lst v)]:=rfl
theorem z0r (i v:Nat):avCells (.row i v)=[.row i v]:=rfl
theorem z8g (v:Value):avOne (.p (.val v))=true:=rfl
theorem zbah (v:List (List PV)):avOne (.p (.lst v))=true:=rfl
theorem zbat (i v:Nat):avOne (.row i v)=true:=rfl
theorem z6l {α:Type} (cs:List α) (off:Nat) (new:List α):splice cs off new=cs.take off++new++cs.drop (off+new.length):=rfl

theorem zbgn {env:Env} {H:za} (rs:List ResultVar):resP P env H rs=(match resAV P env H rs with
 | some a=>(match lend2 H a with
  | some (x,_)=>some x
  | none=>none)
 | none=>none):=rfl
theorem z7u {env:Env} {H:za} (r:ResultVar):resAV P env H [r]=(match resA P env H r with | some a=>some a | none=>none):=by
 simp only[resAV,resL]; cases resA P env H r<;>rfl
theorem z9g {env:Env} {H:za} (r s:ResultVar):resAV P env H [r,s]=(match resA P env H r with | some a=>(match resA P env H s with | some b=>some (.tup [a,b]) | none=>none) | none=>none):=by
 simp only[resAV,resL]; cases resA P env H r<;>cases resA P env H s<;>rfl
theorem z1t {env:Env} {H:za} (r s t:ResultVar):resAV P env H [r,s,t]=(match resA P env H r with | some a=>(match resA P env H s with | some b=>(match resA P env H t with | some c=>some (.tup [a,b,c]) | none=>none) | none=>none) | none=>none):=by
 simp only[resAV,resL]; cases resA P env H r<;>cases resA P env H s<;>cases resA P env H t<;>rfl
theorem zbbr {env:Env} {H:za} (t:Tmp):resA P env H (.tmp t)=some (env t):=rfl
def resB (P:Program) (t:TypeId) (H:za) (a:AV):Option AV:=match a with
 | .ptr id off=>(match H id with
  | some (.box cs)=>readA P t cs off
  | _=>none)
 | _=>none
theorem z7h {env:Env} {H:za} (a:Tmp) (t:TypeId):resA P env H (.cell a t)=resB P t H (env a):=rfl
theorem zbcp {H : za} (id off : Nat) : resB P t H (.ptr id off) = (match H id with
  | some (.box cs)=>readA P t cs off
  | _=>none):=rfl
theorem zbg5 (H:za) (x:PV):lend2 H (.p x)=some (x,false):=rfl
theorem z7r (H:za) (id ver:Nat):lend2 H (.row id ver)=lendR H (.row id ver):=rfl
theorem z9i (H : za) (cs : List AV) : lend2 H (.agg cs) = (match lendL (lend0 H) cs with
  | some (ps,b)=>some (.agg ps,b)
  | none=>none):=rfl
theorem z9y (H : za) (cs : List AV) : lend2 H (.tup cs) = (match lendL (lend1 H) cs with
  | some (ps,b)=>some (.tup ps,b)
  | none=>none):=rfl
theorem zu2 (H:za) (x:PV):lend1 H (.p x)=some (x,false):=rfl
theorem z98 (H:za) (id ver:Nat):lend1 H (.row id ver)=lendR H (.row id ver):=rfl
theorem z7f (H:za) (id off:Nat):lend1 H (.ptr id off)=lend0 H (.ptr id off):=rfl
theorem z86 (H : za) (cs : List AV) : lend1 H (.agg cs) = (match lendL (lend0 H) cs with
  | some (ps,b)=>some (.agg ps,b)
  | none=>none):=rfl
theorem z91 (H : za) (fn : Fn) (fs cs : List AV) : lend1 H (.clo fn fs cs) = (match lendL (lend0 H) fs, lendL (lend0 H) cs with
  | some (f,b),some (c,d)=>some (.clo fn f c,b||d)
  | _,_=>none):=rfl
theorem z6v (H:za) (id ver:Nat):lend0 H (.row id ver)=lendR H (.row id ver):=rfl
theorem z85 (H : za) (id off : Nat) : lend0 H (.ptr id off) = (match H id with
  | some (.box cs)=>(match lendL (lendR H) cs with
   | some (ps,_)=>some (.eptr ps off,true)
   | none=>none)
  | _=>none):=rfl
theorem zbf0 (H:za) (x:PV):lendR H (.p x)=some (x,false):=rfl
theorem z8v (H : za) (id ver : Nat) : lendR H (.row id ver) = (match H id with
  | some (.row v _ _ es)=>if v=ver then some (.lst es,true) else none
  | some (.shut v es)=>if v=ver then some (.lst es,false) else none
  | _=>none):=rfl
theorem z8q (f:AV→Option (PV×Bool)):lendL f []=some ([],false):=rfl
theorem z23 (f : AV → Option (PV × Bool)) (a : AV) (r : List AV) : lendL f (a :: r) = (match f a, lendL f r with
  | some (x,b),some (xs,c)=>some (x :: xs,b||c)
  | _,_=>none):=rfl
theorem zbdt (fn:Fn) (fs cs:List AV):mkClo fn fs cs=(match allP fs,allP cs with
 | some f,some c=>.p (.clo fn f c)
 | _,_=>.clo fn fs cs):=rfl
end

attribute [go_sem] zbhk z8a zbfw zbh7 zbg0 zbev zbft zbhl zbh5 z0x z59 zbby zxi z05 z4u z35 zz7 zbbh zbae zbd9 z64 z5p z12 z3t z45 z4f z3y z83 z7j z0l z0q z13 zbea zbb8 z4c zba4 zbct zba5 z4d zbbj z1b z8z zbca z0k zze z95 zban z6s zbey zw7 zxc z5y z5c zbdl zvj zbhb zue zvm zbif zbhv zbgw zbaf zbcf zbf7 argsEnv0 argsEnv1 argsEnv2 argsEnv3 argsEnv4 zbhw zbgz zbb6 zbe2 zbb9 zbdh zbcd zbek zbem zbbb zbcn zbco z9a zbel zbg1 z5z z0n z4e z5s z4s zbac z1c z5h zbcc zbeo zbgk zbfz zbhd zbge z0u z4x z0y z38 z88 z4h z9u zbdc zbc3 zbe5 zbb4 zba2 z7g zbc7 storeM boxM allocM z3i z56 z3j z9o z3s z4r zxa zxb z3h z3l zbaj z7s zbgx zbdb z3w z7l zx8 zbao z9k z9f z6c zbb3 zbfl zbg6 zbhh z3k zbis Option.isNone_none Option.isNone_some zyf z73 zba1 zber zbcx zbeb zbh4 zbbc zbbi z11 zy9 z07 zz8 z0r z8g zbah zbat z6l zbgn z7u z9g z1t zbbr z7h zbcp zbg5 z7r z9i z9y zu2 z98 z7f z86 z91 z6v z85 zbf0 z8v z8q z23 zbdt

attribute [go_sem] true_and and_true if_true if_false ite_true ite_false not_true_eq_false not_false_eq_true Bool.not_true Bool.not_false Bool.false_eq_true ne_eq Option.bind_some Option.bind_none Option.map_some Option.map_none List.map_cons List.map_nil List.length_cons List.length_nil List.drop_zero List.drop_succ_cons List.take_zero List.take_succ_cons List.cons_append List.nil_append List.append_nil List.drop_nil List.take_nil Nat.zero_add Nat.add_zero AV.p.injEq PV.val.injEq PV.lst.injEq PV.tup.injEq PV.agg.injEq Value.int.injEq Value.bool.injEq Value.string.injEq Option.some.injEq List.cons.injEq List.mem_cons List.not_mem_nil forall_eq_or_imp forall_eq or_false false_or and_self List.getElem?_toArray List.getElem?_cons_zero List.getElem?_cons_succ List.all_cons List.all_nil Bool.and_true Bool.true_and Bool.and_self Bool.or_false Bool.false_or Bool.false_and Bool.and_false Bool.or_true Bool.true_or beq_self_eq_true List.length_map List.length_append Int.ofNat_lt Int.natCast_nonneg Int.toNat_natCast List.append_assoc

end Go.Abs
namespace Go.Abs
open Go.RowKit

variable {P:Program} {I:Mem} {L:zbl}

mutual
def idsOk (H:za):AV→Prop
 | .p _=>True
 | .row id _=>H id≠none
 | .ptr id _=>H id≠none
 | .rptr id _ _ _=>H id≠none
 | .agg cs=>idsOkL H cs
 | .tup cs=>idsOkL H cs
 | .clo _ fs cs=>idsOkL H fs∧idsOkL H cs
 | .dead=>True
def idsOkL (H:za):List AV→Prop
 | []=>True
 | a :: r=>idsOk H a∧idsOkL H r
end

theorem ziv {H:za} : ∀ {cs:List AV},idsOkL H cs→∀ (j:Nat) c,cs[j]? = some c→idsOk H c
 | [],_,j,c,h=>by simp at h
 | a :: r,h,j,c,hc=>by
  cases j with
  | zero=>simp at hc; subst hc; exact h.1
  | succ j=>exact ziv h.2 j c (by simpa using hc)

def zbl.to (L:zbl) (H:za):zbl:=fun id=>match H id with
 | some _=>L id
 | none=>none

theorem zlj {H:za} {id:Nat} (h:H id≠none):L.to H id=L id:=by
 unfold zbl.to
 cases hH:H id with
 | none=>exact absurd hH h
 | some c=>rfl

theorem zlu {H:za} {id:Nat} {l:Loc} (h:L.to H id=some l):L id=some l∧∃c,H id=some c:=by
 unfold zbl.to at h
 cases hH:H id with
 | none=>simp[hH] at h
 | some c=>simp[hH] at h; exact⟨h,c,rfl⟩

theorem AVR.to {u:Value} {a:AV} (h:AVR I L u a) {H:za} : idsOk H a→AVR I (L.to H) u a:=by
 induction h with
 | p u x h=>exact fun _=>.p u x h
 | row u id ver v hdr sz hl hle h h1=>exact fun hi=>.row u id ver v hdr sz ((zlj hi).trans hl) hle h h1
 | ptr id b off hl=>exact fun hi=>.ptr id b off ((zlj hi).trans hl)
 | rptr u id ver v i off hdr sz hl hle h h1=>exact fun hi=>.rptr u id ver v i off hdr sz ((zlj hi).trans hl) hle h h1
 | agg us cs hl _ hone ih=>exact fun hi=>.agg us cs hl (fun j u c hu hc=>ih j u c hu hc (ziv hi j c hc)) hone
 | tup us cs hl _ ih=>exact fun hi=>.tup us cs hl (fun j u c hu hc=>ih j u c hu hc (ziv hi j c hc))
 | clo fn us vs fs cs hl hl' _ _ ih ih' =>
  exact fun hi=>.clo fn us vs fs cs hl hl' (fun j u c hu hc=>ih j u c hu hc (ziv hi.1 j c hc)) (fun j u c hu hc=>ih' j u c hu hc (ziv hi.2 j c hc))
 | dead u=>exact fun _=>.dead u

def zug (e' e:Env):Prop:=∀t,e' t = .dead∨e' t=e t
def zrq (e:Env) (H:za):Prop:=∀t,idsOk H (e t)
def zjm (H' H:za):Prop:=∀id cs,H' id=some (.box cs)→idsOkL H cs

theorem zbk (e:Env):zug env0 e:=fun _=>.inl rfl
theorem zbp {e' e:Env} {d:Nat} {v:AV} (h:zug e' e) (hv:e d=v):zug (upd e' d v) e:=fun t=>by
 unfold upd
 split
 ·rename_i ht; subst ht; exact .inr hv.symm
 ·exact h t
theorem hsub0 (H:za):HSub heap0 H:=fun _ _ h=>by cases h
theorem zbb {H' H:za} {id:Nat} {c:zcb} (h:HSub H' H) (hc:H id=some c):HSub (hset H' id c) H:=fun i c' hi=>by
 unfold hset at hi
 split at hi
 ·rename_i hid; subst hid; simp at hi; subst hi; exact hc
 ·exact h i c' hi
theorem zbi (H:za):zrq env0 H:=fun _=>trivial
theorem zbo {e:Env} {H:za} {d:Nat} {v:AV} (h:zrq e H) (hv:idsOk H v):zrq (upd e d v) H:=fun t=>by
 unfold upd
 split
 ·exact hv
 ·exact h t
theorem boxIds0 (H:za):zjm heap0 H:=fun _ _ h=>by cases h
theorem z2 {H' H:za} {id:Nat} {cs:List AV} (h:zjm H' H) (hc:idsOkL H cs):zjm (hset H' id (.box cs)) H:=fun i c' hi=>by
 unfold hset at hi
 split at hi
 ·simp at hi; subst hi; exact hc
 ·exact h i c' hi
theorem z6 {H' H:za} {id v:Nat} {e:TypeId} {sz:Nat} {es:List (List PV)} (h:zjm H' H):zjm (hset H' id (.row v e sz es)) H:=fun i c' hi=>by
 unfold hset at hi
 split at hi
 ·simp at hi
 ·exact h i c' hi
theorem zy {H' H:za} {id v:Nat} {es:List (List PV)} (h:zjm H' H):zjm (hset H' id (.shut v es)) H:=fun i c' hi=>by
 unfold hset at hi
 split at hi
 ·simp at hi
 ·exact h i c' hi

def zhz (H H':za):Prop:=∀i,1000000≤i→H i≠none→H' i≠none
theorem keep0 (H':za):zhz heap0 H':=fun _ _ h=>absurd rfl h
theorem zbh {H H':za} {i:Nat} {c:zcb} (hi:i<1000000) (h:zhz H H'):zhz (hset H i c) H':=fun j hj hn=>by
 refine h j hj ?_
 unfold hset at hn
 rw[if_neg (by omega)] at hn
 exact hn
theorem zbc {H H':za} {i:Nat} {c:zcb} (hi:H' i≠none) (h:zhz H H'):zhz (hset H i c) H':=fun j hj hn=>by
 by_cases e:j=i
 ·rw[e]; exact hi
 ·refine h j hj ?_
  unfold hset at hn
  rw[if_neg e] at hn
  exact hn

theorem zbq {e e':Env} {H H':za} (h1:zug e' e) (h2:HSub H' H) (h3:zrq e' H') (h4:zjm H' H') (h5:zhz H H'):Weak e H e' H':=fun C I L tm w hs=>by
 refine⟨I,L.to H',?_⟩
 exact
 {below:=hs.below
  mem:=hs.mem
  memC:=hs.memC
  memN:=hs.memN
  frame:=hs.frame
  loc:=fun i=>by
   cases hi:C.L0 i with
   | none=>trivial
   | some l0 =>
    have h0:=hs.loc i
    rw[hi] at h0
    have hL:L i≠none:=by
     cases l0 with
     | box b=>intro e; rw[e] at h0; cases h0
     | row v hdr sz =>
      obtain⟨_,_,h0,_⟩:=h0
      intro e; rw[e] at h0; cases h0
    have hH:H i≠none:=by
     cases hLi:L i with
     | none=>exact absurd hLi hL
     | some l =>
      obtain⟨c,hc⟩:=hs.dom i l hLi
      rw[hc]; simp
    have e:=zlj (L:=L) (h5 i (C.hL0 i l0 hi) hH)
    rw[e]
    exact h0
  blkF:=fun id l b hl hb=>hs.blkF id l b (zlu hl).1 hb
  size:=hs.size
  env:=fun t=>by
   rcases h1 t with h | h
   ·rw[h]; exact .dead _
   ·have:=hs.env t
    rw[←h] at this
    exact this.to (h3 t)
  dom:=fun id l hl=>(zlu hl).2
  chunk:=fun id ch hch=>by
   have hc:=hs.chunk id ch (h2 id ch hch)
   have hid:L.to H' id=L id:=zlj (by rw[hch]; simp)
   cases ch with
   | box cs =>
    obtain⟨b,arr,e,g1,g2,g3,g4,g5,g6⟩:=hc
    exact⟨b,arr,e,hid.trans g1,g2,g3,fun j u c hu hc=>(g4 j u c hu hc).to (ziv (h4 id cs hch) j c hc),g5,g6⟩
   | row ver e sz es =>
    obtain⟨hdr,us,g1,g2⟩:=hc
    exact⟨hdr,us,hid.trans g1,g2⟩
   | shut ver es =>
    obtain⟨hdr,sz,g1,g2⟩:=hc
    exact⟨hdr,sz,hid.trans g1,g2⟩
   | tail ver e sz es =>
    obtain⟨g,o,cap,arr,g1,g2⟩:=hc
    exact⟨g,o,cap,arr,hid.trans g1,g2⟩
  blkB:=fun id l b hl hb=>hs.blkB id l b (zlu hl).1 hb
  apart:=fun i j li lj b hi hj hbi hbj=>hs.apart i j li lj b (zlu hi).1 (zlu hj).1 hbi hbj }

theorem zhi {e : Env} {H : za} (t id : Nat) (ty : TypeId) (sz : Nat) (ht : e t = .p (.val (.slice none 0 0))) (hid : H id = none) (hsz : 0 < sz) :
  Weak e H (upd e t (.row id 0)) (hset H id (.row 0 ty sz [])):=fun C I L tm w hs=>by
 obtain⟨n1,n2,n3⟩:=zu6 hs hid ty hsz
 have hs':=n2 e tm hs
 refine⟨I,_,{ hs' with env:=fun i=>?_ }⟩
 unfold upd
 split
 ·rename_i hi
  subst hi
  have:=hs.env i
  rw[ht] at this
  rw[this.of_val.1]
  exact n1
 ·exact hs'.env i

theorem zlp {e : Env} {H : za} (b off id : Nat) (ty : TypeId) (sz : Nat) (cs : List AV) (hb : H b = some (.box cs)) (ho : cs[off]? = some (.p (.val (.slice none 0 0)))) (hid : H id = none) (hsz : 0 < sz) :
  Weak e H e (hset (hset H id (.row 0 ty sz [])) b (.box (cs.set off (.row id 0)))):=fun C I L tm w hs=>by
 obtain⟨n1,n2,n3⟩:=zu6 hs hid ty hsz
 have hs':=n2 e tm hs
 have hne:b≠id:=fun h=>by rw[h,hid] at hb; cases hb
 obtain⟨blk,arr,et,g1,g2,g3,g4,g5,g6⟩:=hs.chunk b _ hb
 refine⟨I,_,{ hs' with dom:=fun i l hl=>?_,chunk:=fun i ch hch=>?_ }⟩
 ·obtain⟨c,hc⟩:=hs'.dom i l hl
  by_cases hi:i=b
  ·exact⟨.box (cs.set off (.row id 0)),by unfold hset; rw[if_pos hi]⟩
  ·exact⟨c,by unfold hset at hc ⊢; rw[if_neg hi]; exact hc⟩
 ·by_cases hi:i=b
  ·subst hi
   have:zcb.box (cs.set off (.row id 0))=ch:=by simpa[hset] using hch
   subst this
   refine⟨blk,arr,et,by simp[lset,hne,g1],g2,by simpa using g3,fun j u c hu hc=>?_,g5,g6⟩
   rw[List.getElem?_set] at hc
   split at hc
   ·rename_i hj
    subst hj
    split at hc
    ·simp at hc; subst hc
     have:=g4 off u _ hu ho
     rw[this.of_val.1]
     exact n1
    ·cases hc
   ·exact (g4 j u c hu hc).mono (Mem.sub_refl I) n3
  ·exact hs'.chunk i ch (by unfold hset at hch ⊢; rw[if_neg hi] at hch; exact hch)

section
variable {N:Nat} {own:List Nat} {σ:Type}

def loopN (inv:σ→Env) (invH:σ→za) (φ:σ→Prop) (μ:σ→Nat) (x:σ) (env:Env) (H:za):Prop:=∃y,φ y∧μ y<μ x∧Weak env H (inv y) (invH y)
def loopK (inv:σ→Env) (invH:σ→za) (φ:σ→Prop) (μ:σ→Nat) (x:σ) (K:Kont):Kont:=fun e env H=>match e with
 | .normal=>loopN inv invH φ μ x env H
 | e=>K e env H
theorem zzw {inv:σ→Env} {invH:σ→za} {φ:σ→Prop} {μ:σ→Nat} {x:σ} {K:Kont} {env:Env} {H:za} : loopK inv invH φ μ x K .normal env H=loopN inv invH φ μ x env H:=rfl
theorem z4t {inv:σ→Env} {invH:σ→za} {φ:σ→Prop} {μ:σ→Nat} {x:σ} {K:Kont} {env:Env} {H:za} {id:Nat} : loopK inv invH φ μ x K (.exit id) env H=K (.exit id) env H:=rfl
theorem z7q {inv:σ→Env} {invH:σ→za} {φ:σ→Prop} {μ:σ→Nat} {x:σ} {K:Kont} {env:Env} {H:za} : loopK inv invH φ μ x K .ret env H=K .ret env H:=rfl

theorem zca {c : Code} {K : Kont} {env : Env} {H : za} (inv : σ → Env) (invH : σ → za) (φ : σ → Prop) (μ : σ → Nat) (x0 : σ) (h0 : φ x0) (hw : Weak env H (inv x0) (invH x0))
  (hr:∀x,φ x→cw P N own c (loopK inv invH φ μ x K) (inv x) (invH x)):loopC P N own c K env H:=by
 refine⟨fun n e H=>∃x,φ x∧μ x=n∧e=inv x∧H=invH x,⟨μ x0,_,_,⟨x0,h0,rfl,rfl,rfl⟩,hw⟩,?_⟩
 rintro n e H ⟨x,hx,rfl,rfl,rfl⟩
 have hk : (loopK inv invH φ μ x K) = (fun z e' H' => match z with
   | .normal=>∃m e2 H2,m<μ x∧(∃x,φ x∧μ x=m∧e2=inv x∧H2=invH x)∧Weak e' H' e2 H2
   | z=>K z e' H'):=by
  funext z e' H'
  cases z<;>try rfl
  apply propext
  constructor
  ·rintro⟨y,h1,h2,h3⟩
   exact⟨μ y,_,_,h2,⟨y,h1,rfl,rfl,rfl⟩,h3⟩
  ·rintro⟨m,e2,H2,h1,⟨y,h2,rfl,rfl,rfl⟩,h3⟩
   exact⟨y,h2,h1,h3⟩
 have:=hr x hx
 rw[hk] at this
 exact this

theorem zb9 {inv:σ→Env} {invH:σ→za} {φ:σ→Prop} {μ:σ→Nat} {x:σ} {env:Env} {H:za} (y:σ) (h1:φ y) (h2:μ y<μ x) (h3:Weak env H (inv y) (invH y)):loopN inv invH φ μ x env H:=⟨y,h1,h2,h3⟩
end

attribute [go_sem] zzw z4t z7q

end Go.Abs
namespace Go.Abs
open Go.RowKit

variable {P:Program} {o:Oper} {ρ ρ':Operand→AV}

theorem zjw {l:List (Nat×Operand)} (h:∀x∈l.map (·.2),ρ x=ρ' x):(l.map fun x=>(x.1,ρ x.2))=l.map fun x=>(x.1,ρ' x.2):=by
  apply List.map_congr_left
  intro x hx
  rw[h x.2 (List.mem_map.2 ⟨x,hx,rfl⟩)]

theorem zwz (h:∀x∈o.op.operands,ρ x=ρ' x):exP P o ρ=exP P o ρ':=by
  unfold exP
  cases hop:o.op<;>simp only[hop,Op.operands] at h ⊢
  case build t ps=>rw[zjw (l:=ps.toList) (fun x hx=>h x (by simpa using hx))]
  case buildSlice t n ps=>rw[zjw (l:=ps.toList) (fun x hx=>h x (by simpa using hx))]
  case makeFunc fn f c =>
    have h1:f.toList.map ρ=f.toList.map ρ':=List.map_congr_left fun x hx=>h x (by simp at hx; simp[hx])
    have h2:c.toList.map ρ=c.toList.map ρ':=List.map_congr_left fun x hx=>h x (by simp at hx; simp[hx])
    rw[h1,h2]
  case slice t x lo hi mx =>
    rw[h x (by simp)]
    have h1:lo.map ρ=lo.map ρ':=by
      cases lo with
      | none=>rfl
      | some y=>simp[h y (by simp)]
    have h2:hi.map ρ=hi.map ρ':=by
      cases hi with
      | none=>rfl
      | some y=>simp[h y (by simp)]
    have h3:mx.map ρ=mx.map ρ':=by
      cases mx with
      | none=>rfl
      | some y=>simp[h y (by simp)]
    rw[h1,h2,h3]
  case call c =>
    have h1:c.args.toList.map ρ=c.args.toList.map ρ':=List.map_congr_left fun x hx=>h x (by simp at hx; simp[Call.operands,hx])
    rw[h1]
  all_goals first
    | rfl
    | (simp at h; simp[h])

theorem z7p {H:za} (h:∀x∈o.op.operands,ρ x=ρ' x):exQ P o ρ H=exQ P o ρ' H:=by
  unfold exQ
  cases hop:o.op<;>simp only[hop,Op.operands] at h ⊢
  case call c =>
    have h1:c.args.toList.map ρ=c.args.toList.map ρ':=List.map_congr_left fun x hx=>h x (by simp at hx; simp[Call.operands,hx])
    rw[h1]
  all_goals first
    | rfl
    | (simp at h; simp[h])

theorem zbai {H:za} (h:∀x∈o.op.operands,ρ x=ρ' x):exW P o ρ H=exW P o ρ' H:=by
  unfold exW
  cases hop:o.op<;>simp only[hop,Op.operands] at h ⊢
  case call c =>
    have h1:c.args.toList.map ρ=c.args.toList.map ρ':=List.map_congr_left fun x hx=>h x (by simp at hx; simp[Call.operands,hx])
    rw[h1]
  all_goals first
    | rfl
    | (simp at h; simp[h])

theorem z6e {H:za} (h:∀x∈o.op.operands,ρ x=ρ' x):exS P o ρ H=exS P o ρ' H:=by
  unfold exS
  cases hop:o.op<;>simp only[hop,Op.operands] at h ⊢
  case buildSlice t n ps=>rw[zjw (l:=ps.toList) (fun x hx=>h x (by simpa using hx))]

theorem z90 {H:za} {d:Nat} (h:∀x∈o.op.operands,ρ x=ρ' x):exN P o ρ H d=exN P o ρ' H d:=by
  unfold exN
  cases H d with
  | some _=>rfl
  | none =>
    simp only[]
    cases hop:o.op<;>simp only[hop,Op.operands] at h ⊢
    case buildSlice t n ps=>rw[zjw (l:=ps.toList) (fun x hx=>h x (by simpa using hx))]
    case call c =>
      have h1:c.args.toList.map ρ=c.args.toList.map ρ':=List.map_congr_left fun x hx=>h x (by simp at hx; simp[Call.operands,hx])
      rw[h1]
    all_goals(simp at h; simp[h])

theorem zn9 {H:za} (h:∀x∈o.op.operands,ρ x=ρ' x):exM P o ρ H=exM P o ρ' H:=by
  unfold exM
  rw[zwz h,z7p h,zbai h,z6e h]

theorem zlt {own:List Nat} {H:za} (h:∀x∈o.op.operands,ρ x=ρ' x):exAll P own o ρ H=exAll P own o ρ' H:=by
  unfold exAll
  rw[zn9 h]
  cases o.dst with
  | none=>rfl
  | some d=>simp only[z90 h]

theorem zo0 (h:∀x∈o.op.operands,ρ x=ρ' x):callArgs o ρ=callArgs o ρ':=by
  unfold callArgs
  cases hop:o.op<;>simp only[hop,Op.operands] at h ⊢
  case call c =>
    have h1:c.args.toList.map ρ=c.args.toList.map ρ':=List.map_congr_left fun x hx=>h x (by simp at hx; simp[Call.operands,hx])
    rw[h1]
    cases hc:c.callee with
    | value f =>
      have:ρ f=ρ' f:=h f (by simp[Call.operands,hc])
      simp only[this]
    | _=>rfl

theorem zls {H:za} {x:PV} (h:∀x∈o.op.operands,ρ x=ρ' x) (hc:callS P o ρ H x):callS P o ρ' H x:=by
  obtain⟨k,als,ps,b,h1,h2⟩:=hc
  exact⟨k,als,ps,b,(zo0 h) ▸ h1,h2⟩

def quietOp (own:List Nat) (o:Oper):Bool:=(match o.dst with
  | some d=>!own.contains d
  | none=>true)&&match o.op with
  | .store .. | .alloc _ | .box .. | .buildSlice ..=>false
  | .call c=>match c.callee with
    | .builtin .append=>false
    | _=>true
  | _=>true

def pureOp (own:List Nat) (o:Oper):Bool:=(match o.dst with
  | some d=>!own.contains d
  | none=>true)&&match o.op with
  | .move _ | .assign _ | .pick .. | .extract .. | .binOp .. | .unOp .. | .convert .. | .makeFunc .. | .build .. | .index .. | .slice .. | .nilCheck _=>true
  | _=>false

theorem zgc {own:List Nat} {H:za} (h:(match o.dst with
  | some d=>!own.contains d
  | none=>true)=true):exAll P own o ρ H=exM P o ρ H:=by
  unfold exAll
  cases hd:o.dst with
  | none=>rfl
  | some d =>
    rw[hd] at h
    have:own.contains d=false:=by simpa using h
    simp only[this]
    try rfl

theorem zj8 {own:List Nat} {H H':za} {pre:Prop} {v:AV} (hq:quietOp own o=true) (h:exAll P own o ρ H=some (pre,v,H')):H'=H:=by
  unfold quietOp at hq
  rw[Bool.and_eq_true] at hq
  rw[zgc hq.1] at h
  have hk:=hq.2
  unfold exM at h
  split at h
  · simp at h; exact h.2.2.symm
  · split at h
    · simp at h; exact h.2.2.symm
    · exfalso
      have hw:exW P o ρ H=none:=by
        unfold exW
        cases hop:o.op<;>simp only[hop] at hk ⊢<;>try (cases hk; done)
        case call c =>
          cases hc:c.callee with
          | builtin b =>
            rw[hc] at hk
            cases b<;>first | rfl | cases hk
          | _=>rfl
      have hs:exS P o ρ H=none:=by
        unfold exS
        cases hop:o.op<;>simp only[hop] at hk ⊢
        cases hk
      rw[hw,hs] at h
      cases h

theorem zxx {own : List Nat} {H : za} (hq : pureOp own o = true) : exM P o ρ H = match exP P o ρ with
    | some (pre,v)=>some (pre,v,H)
    | none=>none:=by
  unfold pureOp at hq
  rw[Bool.and_eq_true] at hq
  have hk:=hq.2
  unfold exM
  cases hp:exP P o ρ with
  | some r=>rfl
  | none =>
    have h1:exQ P o ρ H=none:=by unfold exQ; cases hop:o.op<;>simp only[hop] at hk ⊢<;>cases hk
    have h2:exW P o ρ H=none:=by unfold exW; cases hop:o.op<;>simp only[hop] at hk ⊢<;>cases hk
    have h3:exS P o ρ H=none:=by unfold exS; cases hop:o.op<;>simp only[hop] at hk ⊢<;>cases hk
    rw[h1,h2,h3]

theorem zuc {own : List Nat} {H : za} (hq : pureOp own o = true) : exAll P own o ρ H = match exP P o ρ with
    | some (pre,v)=>some (pre,v,H)
    | none=>none:=by
  have hq':=hq
  unfold pureOp at hq
  rw[Bool.and_eq_true] at hq
  rw[zgc hq.1]
  exact zxx hq'

theorem zv6 {own:List Nat} (hq:pureOp own o=true):callArgs o ρ=none:=by
  unfold pureOp at hq
  rw[Bool.and_eq_true] at hq
  have hk:=hq.2
  unfold callArgs
  cases hop:o.op<;>simp only[hop] at hk ⊢
  cases hk

def noMake (o:Oper):Bool:=match o.op with
  | .alloc _ | .box ..=>false
  | _=>true

theorem zqp:∀ids,sealIds ids heap0=heap0
  | []=>rfl
  | _ :: r=>zqp r

theorem zbab {pre:Prop} {v:AV} {H':za} (hn:noMake o=true) (h:exM P o ρ heap0=some (pre,v,H')):exP P o ρ=some (pre,v):=by
  unfold exM at h
  split at h
  · rename_i hp
    simp only[Option.some.injEq,Prod.mk.injEq] at h
    obtain⟨rfl,rfl,_⟩:=h
    exact hp
  · rename_i hp
    exfalso
    have h1:exQ P o ρ heap0=none:=by
      unfold exQ
      cases hop:o.op<;>simp only[]
      case load t a =>
        cases ρ a<;>rfl
      case fieldAddr s a k =>
        cases ρ a<;>cases fldOff P s k<;>rfl
      case indexAddr t x i =>
        cases ρ x<;>try rfl
        cases ρ i<;>try rfl
        rename_i x
        cases x<;>try rfl
        rename_i z
        cases z<;>rfl
      case call c =>
        split
        · rfl
        · rfl
    have h2:exW P o ρ heap0=none:=by
      unfold exW
      cases hop:o.op<;>simp only[noMake,hop] at hn ⊢<;>try (cases hn; done)
      case store t a x =>
        cases tySize P t with
        | none=>rfl
        | some n =>
          simp only[]
          split
          · cases ρ a<;>simp only[heap0]
          · rfl
      case call c =>
        split
        · rename_i t1 t2 a b _ _ _
          unfold appW
          cases a<;>try rfl
          cases appTypes P t1 t2<;>rfl
        · rfl
    have h3:exS P o ρ heap0=none:=by
      unfold exS
      cases hop:o.op<;>simp only[]
      case buildSlice t n ps =>
        rw[zqp]
        have:((ps.toList.map fun x=>(x.1,ρ x.2)).map fun x=>(x.1,shutV heap0 x.2))=ps.toList.map fun x=>(x.1,ρ x.2):=by
          rw[List.map_map]
          apply List.map_congr_left
          intro x _
          have:shutV heap0 (ρ x.2)=ρ x.2:=z1x _
          simp[this]
        rw[this]
        unfold exP at hp
        simp only[hop] at hp
        cases hb:bsliceE P t n (ps.toList.map fun x=>(x.1,ρ x.2)) with
        | none=>rfl
        | some r =>
          obtain⟨e,es⟩:=r
          rw[hb] at hp
          cases n<;>simp at hp
    rw[h1,h2,h3] at h
    cases h

theorem zrg {own : List Nat} {H : za} (hq : quietOp own o = true) : exM P o ρ H = match exP P o ρ with
    | some (pre,v)=>some (pre,v,H)
    | none=>(match exQ P o ρ H with
      | some (pre,v)=>some (pre,v,H)
      | none=>none):=by
  unfold quietOp at hq
  rw[Bool.and_eq_true] at hq
  have hk:=hq.2
  unfold exM
  cases hp:exP P o ρ with
  | some r=>rfl
  | none =>
    cases hx:exQ P o ρ H with
    | some r=>rfl
    | none =>
      have hw:exW P o ρ H=none:=by
        unfold exW
        cases hop:o.op<;>simp only[hop] at hk ⊢<;>try (cases hk; done)
        case call c =>
          cases hc:c.callee with
          | builtin b =>
            rw[hc] at hk
            cases b<;>first | rfl | cases hk
          | _=>rfl
      have hs:exS P o ρ H=none:=by
        unfold exS
        cases hop:o.op<;>simp only[hop] at hk ⊢
        cases hk
      rw[hw,hs]

theorem zoe {H H':za} (h:HSub H H') {id ver:Nat} {es:List (List PV)} (hr:rowOf H id ver=some es):rowOf H' id ver=some es:=by
  unfold rowOf at hr ⊢
  cases hH:H id with
  | none=>rw[hH] at hr; cases hr
  | some c =>
    rw[h id c hH]
    rw[hH] at hr
    exact hr

theorem zbff {H H':za} (h:HSub H H') {r:Prop×AV} (hx:exQ P o ρ H=some r):exQ P o ρ H'=some r:=by
  unfold exQ at hx ⊢
  cases hop:o.op<;>simp only[hop] at hx ⊢<;>try (cases hx; done)
  case load t a =>
    cases ha:ρ a<;>simp only[ha] at hx ⊢<;>try (cases hx; done)
    case ptr id off =>
      cases hH:H id with
      | none=>rw[hH] at hx; cases hx
      | some c=>rw[h id c hH]; rw[hH] at hx; exact hx
    case rptr id ver i off =>
      cases hr:rowOf H id ver with
      | none=>rw[hr] at hx; cases hx
      | some es=>rw[zoe h hr]; rw[hr] at hx; exact hx
  case fieldAddr s a k =>
    cases ha:ρ a<;>simp only[ha] at hx ⊢<;>try (cases hx; done)
    case rptr id ver i off =>
      cases hf:fldOff P s k with
      | none=>rw[hf] at hx; cases hx
      | some f =>
        rw[hf] at hx
        cases hr:rowOf H id ver with
        | none=>simp only[hr] at hx; cases hx
        | some es=>simp only[zoe h hr]; simp only[hr] at hx; exact hx
  case indexAddr t x i =>
    split at hx
    · rename_i id ver k n hx1 hx2
      cases hr:rowOf H id ver with
      | none=>rw[hr] at hx; cases hx
      | some es=>rw[zoe h hr]; rw[hr] at hx; exact hx
    · cases hx
  case call c =>
    split at hx
    · rename_i t id ver h1 h2 h3
      cases hr:rowOf H id ver with
      | none=>rw[hr] at hx; cases hx
      | some es=>rw[zoe h hr]; rw[hr] at hx; exact hx
    · cases hx

theorem zi3 {own:List Nat} {H H':za} (h:HSub H H') (hq:quietOp own o=true) {pre:Prop} {v:AV} (hx:exM P o ρ H=some (pre,v,H)):exM P o ρ H'=some (pre,v,H'):=by
  rw[zrg hq] at hx ⊢
  cases hp:exP P o ρ with
  | some r =>
    rw[hp] at hx
    simp only[Option.some.injEq,Prod.mk.injEq] at hx ⊢
    exact⟨hx.1,hx.2.1,trivial⟩
  | none =>
    rw[hp] at hx
    cases hQ:exQ P o ρ H with
    | none=>rw[hQ] at hx; cases hx
    | some r =>
      rw[hQ] at hx
      rw[zbff h hQ]
      simp only[Option.some.injEq,Prod.mk.injEq] at hx ⊢
      exact⟨hx.1,hx.2.1,trivial⟩

theorem zwv {H H':za} (h:HSub H H'):∀ {a:AV} {r:PV×Bool},lendR H a=some r→lendR H' a=some r
  | .row id ver,r,hx=>by
    simp only[lendR] at hx ⊢
    cases hH:H id with
    | none=>rw[hH] at hx; cases hx
    | some c=>rw[h id c hH]; rw[hH] at hx; exact hx
  | .p _,_,hx=>hx
  | .ptr _ _,_,hx=>by cases hx
  | .rptr _ _ _ _,_,hx=>by cases hx
  | .agg _,_,hx=>by cases hx
  | .tup _,_,hx=>by cases hx
  | .clo _ _ _,_,hx=>by cases hx
  | .dead,_,hx=>by cases hx

theorem zii {f g:AV→Option (PV×Bool)} (hfg:∀a r,f a=some r→g a=some r):∀ {als:List AV} {r:List PV×Bool},lendL f als=some r→lendL g als=some r
  | [],r,hx=>hx
  | a :: als,r,hx=>by
    unfold lendL at hx ⊢
    cases hf:f a with
    | none=>rw[hf] at hx; cases hx
    | some x =>
      rw[hf] at hx
      rw[hfg a x hf]
      cases hl:lendL f als with
      | none=>rw[hl] at hx; cases hx
      | some y=>rw[zii hfg hl]; rw[hl] at hx; exact hx

theorem zlx {H H':za} (h:HSub H H') {a:AV} {r:PV×Bool} (hx:lend0 H a=some r):lend0 H' a=some r:=by
  unfold lend0 at hx ⊢
  cases a<;>try exact zwv h hx
  case ptr id off =>
    simp only[] at hx ⊢
    cases hH:H id with
    | none=>rw[hH] at hx; cases hx
    | some c =>
      rw[h id c hH]; rw[hH] at hx
      cases c<;>simp only[] at hx ⊢<;>try (cases hx; done)
      case box cs =>
        cases hl:lendL (lendR H) cs with
        | none=>rw[hl] at hx; cases hx
        | some y=>rw[zii (fun a r=>zwv h) hl]; rw[hl] at hx; exact hx

theorem zv2 {H H':za} (h:HSub H H') {a:AV} {r:PV×Bool} (hx:lend1 H a=some r):lend1 H' a=some r:=by
  unfold lend1 at hx ⊢
  cases a<;>try exact zlx h hx
  case agg cs =>
    simp only[] at hx ⊢
    cases hl:lendL (lend0 H) cs with
    | none=>rw[hl] at hx; cases hx
    | some y=>rw[zii (fun a r=>zlx h) hl]; rw[hl] at hx; exact hx
  case tup cs =>
    simp only[] at hx ⊢
    cases hl:lendL (lend0 H) cs with
    | none=>rw[hl] at hx; cases hx
    | some y=>rw[zii (fun a r=>zlx h) hl]; rw[hl] at hx; exact hx
  case clo fn fs cs =>
    simp only[] at hx ⊢
    cases hf:lendL (lend0 H) fs with
    | none=>rw[hf] at hx; cases hx
    | some x =>
      rw[zii (fun a r=>zlx h) hf]
      rw[hf] at hx
      cases hl:lendL (lend0 H) cs with
      | none=>rw[hl] at hx; cases hx
      | some y=>rw[zii (fun a r=>zlx h) hl]; rw[hl] at hx; exact hx

theorem zrx {H H':za} (h:HSub H H') {x:PV} (hc:callS P o ρ H x):callS P o ρ H' x:=by
  obtain⟨k,als,ps,b,h1,h2,h3,h4⟩:=hc
  exact⟨k,als,ps,b,h1,zii (fun a r=>zv2 h) h2,h3,h4⟩

theorem zqa {own:List Nat} {H:za} (hq:quietOp own o=true) {x:PV} {G:za} (hc:callS P o ρ G x):exAll P own o ρ H=none:=by
  obtain⟨k,als,ps,b,h1,h2,h3,h4⟩:=hc
  have hq':=hq
  unfold quietOp at hq
  rw[Bool.and_eq_true] at hq
  rw[zgc hq.1,zrg hq']
  unfold callArgs at h1
  split at h1
  · rename_i c hop
    split at h1
    · rename_i f hc
      unfold exP exQ
      simp only[hop,hc]
    · cases h1
  · cases h1

def newOp (own:List Nat) (o:Oper):Bool:=match o.op with
  | .buildSlice .. | .makeSlice ..=>(match o.dst with
    | some d=>own.contains d
    | none=>false)
  | .alloc _ | .box ..=>true
  | _=>false

theorem zte {H:za} {d:Nat} (hH:H d=none) (c:zcb):HSub H (hset H d c):=fun id x hx=>by
  unfold hset
  split
  · rename_i hi; rw[hi,hH] at hx; cases hx
  · exact hx

theorem z2i {H H':za} {pre:Prop} {v:AV} {d:Nat} (h:exN P o ρ H d=some (pre,v,H')):HSub H H':=by
  unfold exN at h
  cases hH:H d with
  | some c=>rw[hH] at h; cases h
  | none =>
    rw[hH] at h
    simp only[] at h
    repeat' split at h
    all_goals first
      | (cases h; done)
      | (simp only [Option.some.injEq, Prod.mk.injEq] at h
         obtain⟨_,_,h3⟩:=h
         rw[←h3]
         exact zte hH _)

theorem z2r {H H':za} {pre:Prop} {v:AV} (hn:(match o.op with | .alloc _ | .box ..=>true | _=>false)=true) (h:exM P o ρ H=some (pre,v,H')):HSub H H':=by
  unfold exM at h
  split at h
  · simp only[Option.some.injEq,Prod.mk.injEq] at h; rw[←h.2.2]; exact fun _ _ h=>h
  · split at h
    · simp only[Option.some.injEq,Prod.mk.injEq] at h; rw[←h.2.2]; exact fun _ _ h=>h
    · have hs:exS P o ρ H=none:=by
        unfold exS
        cases hop:o.op<;>simp only[hop] at hn ⊢<;>cases hn
      rw[hs] at h
      split at h
      · rename_i r hr
        simp only[Option.some.injEq] at h
        subst h
        unfold exW at hr
        cases hop:o.op<;>simp only[hop] at hn hr<;>try (cases hn; done)
        case alloc e =>
          split at hr
          · split at hr
            · rename_i hH _
              split at hr
              · simp only[Option.some.injEq,Prod.mk.injEq] at hr
                rw[←hr.2.2]
                exact zte hH _
              · cases hr
            · cases hr
          · cases hr
        case box e x =>
          split at hr
          · split at hr
            · rename_i hH
              split at hr
              · simp only[Option.some.injEq,Prod.mk.injEq] at hr
                rw[←hr.2.2]
                exact zte hH _
              · cases hr
            · cases hr
          · cases hr
      · cases h

theorem zwq {own:List Nat} {H H':za} {pre:Prop} {v:AV} (hn:newOp own o=true) (h:exAll P own o ρ H=some (pre,v,H')):HSub H H':=by
  have own_case:∀d,o.dst=some d→own.contains d=true→isApp o.op=false→HSub H H':=fun d hd hc ha=>by
    unfold exAll at h
    simp only[hd,hc,if_true,ha] at h
    unfold orE at h
    split at h
    · rename_i hx; exact z2i (hx.trans h)
    · rename_i hb; cases hb
    · cases h
  have ab_case:(match o.op with | .alloc _ | .box ..=>true | _=>false)=true→isApp o.op=false→HSub H H':=fun hab ha=>by
    unfold exAll at h
    split at h
    · rename_i d hd
      split at h
      · rename_i hc
        exact own_case d hd hc ha
      · exact z2r hab h
    · exact z2r hab h
  unfold newOp at hn
  cases hop:o.op<;>simp only[hop] at hn<;>try (cases hn; done)
  case buildSlice =>
    split at hn
    · rename_i d hd
      exact own_case d hd hn (by rw[hop]; rfl)
    · cases hn
  case makeSlice =>
    split at hn
    · rename_i d hd
      exact own_case d hd hn (by rw[hop]; rfl)
    · cases hn
  case alloc=>exact ab_case (by rw[hop]) (by rw[hop]; rfl)
  case box=>exact ab_case (by rw[hop]) (by rw[hop]; rfl)

def boxH (H:za):za:=fun id=>match H id with
  | some (.box cs)=>some (.box cs)
  | _=>none
theorem zys (H:za):HSub (boxH H) H:=fun id c h=>by
  unfold boxH at h
  split at h
  · rename_i cs hH; rw[hH]; exact h
  · cases h
def appOp (o:Oper):Bool:=isApp o.op
theorem zn6 {H H':za} (h:HSub H H'):HSub (boxH H) (boxH H'):=fun id c hc=>by
  have:=h id c (zys H id c hc)
  unfold boxH at hc ⊢
  split at hc
  · rename_i cs hH
    rw[h id _ hH]
    exact hc
  · cases hc
theorem zuv {H H':za} {pre:Prop} {v:AV} (hn:isApp o.op=true) (h:exM P o ρ H=some (pre,v,H')):HSub (boxH H) (boxH H'):=by
  have hk:=hn
  unfold isApp at hk
  unfold exM at h
  split at h
  · simp only[Option.some.injEq,Prod.mk.injEq] at h; rw[←h.2.2]; exact fun _ _ h=>h
  · split at h
    · simp only[Option.some.injEq,Prod.mk.injEq] at h; rw[←h.2.2]; exact fun _ _ h=>h
    · cases hop:o.op<;>simp only[hop] at hk<;>try (cases hk; done)
      case call c =>
        have hs:exS P o ρ H=none:=by unfold exS; simp only[hop]
        rw[hs] at h
        unfold exW at h
        simp only[hop] at h
        split at h
        · rename_i r hr
          split at hr
          · unfold appW at hr
            split at hr
            · rename_i id ver _ _ _ _ _
              cases hH:H id with
              | none=>rw[hH] at hr; cases hr
              | some ch =>
                rw[hH] at hr
                cases ch<;>simp only[] at hr<;>try (cases hr; done)
                split at hr
                · split at hr
                  · simp only[Option.some.injEq] at hr h
                    subst hr
                    simp only[Prod.mk.injEq] at h
                    rw[←h.2.2]
                    intro i c' hc'
                    unfold boxH hset at *
                    by_cases hi:i=id
                    · rw[hi,hH] at hc'; cases hc'
                    · rw[if_neg hi]; exact hc'
                  · cases hr
                · cases hr
            · cases hr
          · cases hr
        · cases h

theorem zvt {own:List Nat} {H H':za} {pre:Prop} {v:AV} (hn:appOp o=true) (h:exAll P own o ρ H=some (pre,v,H')):HSub (boxH H) (boxH H'):=by
  unfold exAll at h
  split at h
  · split at h
    · unfold orE at h
      split at h
      · rename_i hx
        exact zn6 (z2i (hx.trans h))
      · exact zuv hn h
      · cases h
    · exact zuv hn h
  · exact zuv hn h

end Go.Abs
namespace Go.Abs
open Go.RowKit

variable {P:Program} {N:Nat} {own:List Nat} {ops:Array Oper} {K:Env→za→Prop}

inductive Cls where
 | p | b | q | w | o | s | f

def newsB (own:List Nat) (ops:Array Oper) (d:Nat):Bool:=(ops.toList.any fun o=>o.dst == some d&&match o.op with
 | .alloc _=>true
 | .box ..=>true
 | .buildSlice ..=>true
 | .makeSlice ..=>true
 | _=>false)||own.contains (2000000+d)
def appArg:Op→Option (Nat×Operand)
 | .call c=>(match c.callee,c.args.toList,c.argTypes.toList with
  | .builtin .append,[.tmp a,s],[_,_]=>some (a,s)
  | _,_,_=>none)
 | _=>none
theorem zog {o:Op} {a:Nat} {s:Operand} (h:appArg o=some (a,s)):∃t1 t2,o = .call ⟨.builtin .append,#[.tmp a,s],#[t1,t2]⟩:=by
 unfold appArg at h
 split at h
 ·rename_i c
  obtain⟨ce,ar,ts⟩:=c
  simp only at h
  split at h
  ·rename_i a' s' t1 t2 h1 h2
   simp only[Option.some.injEq,Prod.mk.injEq] at h
   obtain⟨rfl,rfl⟩:=h
   refine⟨t1,t2,?_⟩
   cases ar; cases ts
   simp only at h1 h2
   subst h1 h2
   rfl
  ·cases h
 ·cases h
def appDst (own:List Nat) (ops:Array Oper) (o:Oper):Option Nat:=match appArg o.op with
 | some (a,_)=>if (own.contains a&&newsB own ops a)=true then some a else none
 | none=>none
def stApp (o:Oper) (env:Env):Prop:=match appArg o.op with
 | some (a,s)=>(∃v,env a = .row a v)∧∃x,ev env s = .p x
 | none=>True
def zku (own:List Nat) (ops:Array Oper) (o:Oper):Bool:=(match o.op with
 | .store _ (.tmp d) _=>newsB own ops d
 | _=>false)||(appDst own ops o).isSome
def stOk (own:List Nat) (ops:Array Oper) (o:Oper) (env:Env):Prop:=(match o.op with
 | .store _ (.tmp d) _=>newsB own ops d=true→∃off,env d = .ptr d off
 | _=>True)∧((appDst own ops o).isSome=true→stApp o env)
def hidH (own:List Nat) (ops:Array Oper) (H:za):za:=fun i=>if newsB own ops i then none else H i
theorem zs5 (own:List Nat) (ops:Array Oper) (H:za):HSub (hidH own ops H) H:=fun i c h=>by
 unfold hidH at h
 split at h
 ·cases h
 ·exact h
theorem zwr (own:List Nat) (ops:Array Oper) {H G:za} (h:HSub H G):HSub (hidH own ops H) (hidH own ops G):=fun i c hc=>by
 unfold hidH at hc ⊢
 split at hc
 ·cases hc
 ·rename_i hn
  rw[if_neg hn]
  exact h i c hc
theorem zta (own:List Nat) (ops:Array Oper) (H:za) {d:Nat} (c:zcb) (h:newsB own ops d=true):hidH own ops (hset H d c)=hidH own ops H:=by
 funext i
 unfold hidH hset
 split
 ·rfl
 ·rename_i hn
  rw[if_neg]
  intro hi
  subst hi
  exact hn h
def locId (own:List Nat) (ops:Array Oper) (o:Oper):Option Nat:=match o.op with
 | .alloc _=>(match o.dst with | some d=>if own.contains d=true then none else if newsB own ops d=true then some d else none | none=>none)
 | .box ..=>(match o.dst with | some d=>if own.contains d=true then none else if newsB own ops d=true then some d else none | none=>none)
 | .store _ (.tmp d) _=>(match o.dst with | some _=>none | none=>if newsB own ops d=true then some d else none)
 | .buildSlice ..=>(match o.dst with | some d=>if own.contains d=true then (if newsB own ops d=true then some d else none) else none | none=>none)
 | .makeSlice ..=>(match o.dst with | some d=>if own.contains d=true then (if newsB own ops d=true then some d else none) else none | none=>none)
 | .call _=>appDst own ops o
 | _=>none
theorem zvf {o:Oper} {ρ:Operand→AV} {H:za} (ho:(match o.op with | .alloc _=>true | .box ..=>true | .store ..=>true | _=>false)=true):exM P o ρ H=exW P o ρ H:=by
 obtain⟨d,op,t,pos,af,g⟩:=o
 cases op<;>first | (cases ho; done) | skip
 all_goals
  simp only[exM,exP,exQ,exS]
  cases exW P _ ρ H<;>rfl
def zbgm (P:Program) (own:List Nat) (o:Oper) (ρ:Operand→AV) (d:Nat):Prop :=
 ∃φ:Option zcb→Option (Prop×AV×zcb),∀G,exAll P own o ρ G=match φ (G d) with | some (pre,v,c)=>some (pre,v,hset G d c) | none=>none
theorem zqi {o:Oper} {env:Env} {d:Nat} (h:locId own ops o=some d) (hs:stOk own ops o env):zbgm P own o (ev env) d∧newsB own ops d=true:=by
 obtain⟨dst,op,t,pos,af,g⟩:=o
 unfold locId at h
 cases op<;>simp only at h<;>try (cases h; done)
 case buildSlice ty n parts =>
  cases dst with
  | none=>cases h
  | some k =>
   simp only at h
   split at h
   ·rename_i hn
    split at h
    ·rename_i hw
     simp only[Option.some.injEq] at h
     subst h
     refine⟨⟨fun c=>match c with
      | some _=>none
      | none=>(match bsliceE P ty n (parts.toList.map fun x=>(x.1,ev env x.2)) with
       | some (e,es)=>(match tySize P e with
        | some sz=>some (True,.row k 0,.row 0 e sz es)
        | none=>none)
       | none=>none),fun G=>?_⟩,hw⟩
     simp only[exAll]
     rw[if_pos hn]
     simp only[exN]
     cases hG:G k with
     | some _=>simp only[orE,isApp]
     | none =>
      simp only
      cases bsliceE P ty n (parts.toList.map fun x=>(x.1,ev env x.2)) with
      | none=>simp only[orE,isApp]
      | some r =>
       obtain⟨e,es⟩:=r
       simp only
       cases tySize P e<;>simp only[orE,isApp]
    ·cases h
   ·cases h
 case makeSlice ty l c =>
  cases dst with
  | none=>cases h
  | some k =>
   simp only at h
   split at h
   ·rename_i hn
    split at h
    ·rename_i hw
     simp only[Option.some.injEq] at h
     subst h
     refine⟨⟨fun q=>match q with
      | some _=>none
      | none=>(match exN P ⟨some k,.makeSlice ty l c,t,pos,af,g⟩ (ev env) heap0 k with
       | some (pre,v,H')=>(match H' k with
        | some ch=>some (pre,v,ch)
        | none=>none)
       | none=>none),fun G=>?_⟩,hw⟩
     simp only[exAll]
     rw[if_pos hn]
     simp only[exN]
     cases hG:G k with
     | some _=>simp only[orE,isApp]
     | none =>
      simp only[show heap0 k=none from rfl]
      split
      ·split
       ·split
        ·simp only[orE,hset,if_true]
        ·simp only[orE,isApp]
       ·simp only[orE,isApp]
      ·simp only[orE,isApp]
    ·cases h
   ·cases h
 case call cl =>
  have hk:(appDst own ops ⟨dst,.call cl,t,pos,af,g⟩).isSome=true:=by rw[h]; rfl
  have hst:stApp ⟨dst,.call cl,t,pos,af,g⟩ env:=hs.2 hk
  unfold appDst at h
  unfold stApp at hst
  split at h
  ·rename_i a s heq
   obtain⟨t1,t2,heq2⟩:=zog heq
   rw[heq] at hst
   simp only at hst
   simp only[Op.call.injEq] at heq2
   subst heq2
   split at h
   ·rename_i hw
    simp only[Option.some.injEq] at h
    subst h
    rw[Bool.and_eq_true] at hw
    obtain⟨⟨ver,h1⟩,x,h2⟩:=hst
    have h1':ev env (.tmp a) = .row a ver:=h1
    have hsrc:∀G:za,srcOf G (.p x)=srcOf heap0 (.p x):=fun G=>by
     cases x with
     | val v =>
      cases v with
      | slice a n c=>cases n<;>rfl
      | _=>rfl
     | _=>rfl
    refine⟨⟨fun c=>match appTypes P t1 t2,c with
     | some (e', sz', by'), some (.row v e sz es) => if v = ver ∧ e = e' ∧ sz = sz' then (match srcOf heap0 (.p x) with
       | some ns=>some ((es.length+ns.length) * by'≤140737488355328∧∀x∈ns,x.length=sz,.row a (ver+1),.row (ver+1) e sz (es++ns))
       | none=>none) else none
     | _,_=>none,fun G=>?_⟩,hw.2⟩
    have hM:exAll P own ⟨dst,.call ⟨.builtin .append,#[.tmp a,s],#[t1,t2]⟩,t,pos,af,g⟩ (ev env) G=exM P ⟨dst,.call ⟨.builtin .append,#[.tmp a,s],#[t1,t2]⟩,t,pos,af,g⟩ (ev env) G:=by
     unfold exAll
     cases dst with
     | none=>rfl
     | some k =>
      simp only
      split
      ·have:exN P ⟨some k,.call ⟨.builtin .append,#[.tmp a,s],#[t1,t2]⟩,t,pos,af,g⟩ (ev env) G k=none:=by
        unfold exN
        cases G k with
        | some _=>rfl
        | none=>simp only[List.map_cons,List.map_nil,h1']
       rw[this]
       rfl
      ·rfl
    rw[hM,zue,h1',h2,zx8]
    cases hT:appTypes P t1 t2 with
    | none=>simp only[appA]
    | some r =>
     obtain⟨e',sz',by'⟩:=r
     rw[zyf,hsrc]
     cases hG:G a with
     | none=>simp only
     | some c =>
      cases c with
      | row v e sz es =>
       simp only
       split
       ·cases srcOf heap0 (.p x)<;>simp only
       ·rfl
      | box cs=>simp only
      | tail v e sz es=>simp only
      | shut v es=>simp only
   ·cases h
  ·cases h
 case alloc e =>
  cases dst with
  | none=>cases h
  | some k =>
   simp only at h
   split at h
   ·cases h
   ·rename_i hn
    split at h
    ·rename_i hw
     simp only[Option.some.injEq] at h
     subst h
     refine⟨⟨fun c=>match c,tyZero P e with
      | none,some zs=>if zs.all (·.oneCell')=true then some (True,.ptr k 0,.box (zs.map fun z=>.p (.val z))) else none
      | _,_=>none,fun G=>?_⟩,hw⟩
     simp only[exAll]
     rw[if_neg hn,zvf rfl]
     simp only[exW]
     cases hG:G k with
     | some _=>simp only
     | none =>
      cases tyZero P e with
      | none=>simp only
      | some zs =>
       simp only
       split<;>rfl
    ·cases h
 case box e x =>
  cases dst with
  | none=>cases h
  | some k =>
   simp only at h
   split at h
   ·cases h
   ·rename_i hn
    split at h
    ·rename_i hw
     simp only[Option.some.injEq] at h
     subst h
     refine⟨⟨fun c=>match c with
      | none=>if (avCells (ev env x)).all avOne=true then some (True,.ptr k 0,.box (avCells (ev env x))) else none
      | some _=>none,fun G=>?_⟩,hw⟩
     simp only[exAll]
     rw[if_neg hn,zvf rfl]
     simp only[exW]
     cases hG:G k with
     | some _=>simp only
     | none =>
      simp only
      split<;>rfl
    ·cases h
 case store e a x =>
  cases a with
  | tmp k =>
   cases dst with
   | some _=>cases h
   | none =>
    simp only at h
    split at h
    ·rename_i hw
     simp only[Option.some.injEq] at h
     subst h
     obtain⟨off,hp⟩:=hs.1 hw
     refine⟨⟨fun c=>match tySize P e with
      | some n=>if (avCells (ev env x)).length=n∧(avCells (ev env x)).all avOne=true then match c with
       | some (.box cs)=>if off+n≤cs.length then some (True,.dead,.box (splice cs off (avCells (ev env x)))) else none
       | _=>none
       else none
      | none=>none,fun G=>?_⟩,hw⟩
     have he:ev env (.tmp k) = .ptr k off:=hp
     simp only[exAll]
     rw[zvf rfl]
     simp only[exW,he]
     cases tySize P e with
     | none=>simp only
     | some n =>
      simp only
      split
      ·cases hG:G k with
       | none=>simp only
       | some c =>
        cases c<;>simp only
        split<;>rfl
      ·rfl
    ·cases h
  | _=>cases h

def callFS (P:Program) (own:List Nat) (ops:Array Oper) (o:Oper) (ρ:Operand→AV) (H:za) (v:AV) (H':za):Prop :=
 ∃k als ps b r,∃id:Nat,callArgs o ρ=some (k,als)∧lendL (lend1 (hidH own ops H)) als=some (ps,b)∧zbt P k ps (fun x=>x=r)∧(b=true→r.flat=true) ∧
  (∀i,id≤i→i<(placeA id r).2→H i=none∧newsB own ops i=false)∧v=(placeA id r).1∧H'=placeH id H r
theorem z06:∀ (r:RV) (k:Nat) (H:za) (d:Nat) (c:zcb),(d<k∨(placeA k r).2≤d)→placeH k (hset H d c) r=hset (placeH k H r) d c:=by
 intro r
 refine RV.rec (motive_1:=fun r=>∀k (H:za) d c,(d<k∨(placeA k r).2≤d)→placeH k (hset H d c) r=hset (placeH k H r) d c) (motive_2:=fun rs=>∀k (H:za) d c,(d<k∨(placeL k rs).2≤d)→placeHL k (hset H d c) rs=hset (placeHL k H rs) d c) ?_ ?_ ?_ ?_ ?_ ?_ r
 ·intro x k H d c _; rfl
 ·intro e sz es k H d c hd
  have hne:d≠k:=by
   rintro rfl
   rcases hd with h | h
   ·exact Nat.lt_irrefl _ h
   ·exact Nat.lt_irrefl _ h
  exact zwi H c _ hne
 ·intro rs ih k H d c hd; exact ih k H d c hd
 ·intro rs ih k H d c hd; exact ih k H d c hd
 ·intro k H d c _; rfl
 ·intro r rs ih1 ih2 k H d c hd
  show placeHL _ (placeH k (hset H d c) r) rs=hset (placeHL _ (placeH k H r) rs) d c
  have h1:=znd r k
  have h2:=zq7 rs (placeA k r).2
  have hd':d<k∨(placeL (placeA k r).2 rs).2≤d:=hd
  rw[ih1 k H d c (by omega),ih2 _ _ d c (by omega)]
theorem zov {o:Oper} {ρ:Operand→AV} {H H':za} {v:AV} (h:callFS P own ops o ρ H v H'):HSub H H':=by
 obtain⟨k,als,ps,b,r,id,_,_,_,_,h5,_,rfl⟩:=h
 intro i c hc
 rw[zp8 r id H i,hc]
 rcases Nat.lt_or_ge i id with h | h
 ·exact .inl h
 ·rcases Nat.lt_or_ge i (placeA id r).2 with h' | h'
  ·rw[(h5 i h h').1] at hc; cases hc
  ·exact .inr h'
theorem zrj {o:Oper} {ρ ρ':Operand→AV} {H H':za} {v:AV} (h:∀x∈o.op.operands,ρ x=ρ' x) (hc:callFS P own ops o ρ H v H'):callFS P own ops o ρ' H v H':=by
 obtain⟨k,als,ps,b,r,id,h1,h2⟩:=hc
 exact⟨k,als,ps,b,r,id,(zo0 h) ▸ h1,h2⟩
theorem z4n {o:Oper} {ρ:Operand→AV} {H:za} (hq:quietOp own o=true) {x:FuncId×List AV} (h1:callArgs o ρ=some x):exAll P own o ρ H=none:=by
 have hq':=hq
 unfold quietOp at hq
 rw[Bool.and_eq_true] at hq
 rw[zgc hq.1,zrg hq']
 unfold callArgs at h1
 split at h1
 ·rename_i c hop
  split at h1
  ·rename_i f hc
   unfold exP exQ
   simp only[hop,hc]
  ·cases h1
 ·cases h1

def stepC (P:Program) (own:List Nat) (ops:Array Oper) (c:Cls) (o:Oper) (env:Env) (H:za) (v:AV) (H':za):Prop:=match c with
 | .p=>∃pre,exP P o (ev env)=some (pre,v)∧pre∧H'=H∧(match o.dst with | some d=>!own.contains d | none=>true)=true
 | .q=>quietOp own o=true∧H'=H∧((∃pre,exM P o (ev env) H=some (pre,v,H)∧pre)∨(∃x,v = .p x∧callS P o (ev env) H x∧exAll P own o (ev env) H=none))
 | .b=>quietOp own o=true∧H'=H∧∃pre,exM P o (ev env) (boxH H)=some (pre,v,boxH H)∧pre
 | .w=>∃pre,exAll P own o (ev env) H=some (pre,v,H')∧pre
 | .s=>∃pre,exAll P own o (ev env) H=some (pre,v,H')∧pre
 | .f=>quietOp own o=true∧callFS P own ops o (ev env) H v H'
 | .o=>quietOp own o=true∧H'=H∧((∃pre,exM P o (ev env) (hidH own ops H)=some (pre,v,hidH own ops H)∧pre)∨(∃x,v = .p x∧callS P o (ev env) (hidH own ops H) x∧exAll P own o (ev env) (hidH own ops H)=none))

theorem z2y {o:Oper} {env:Env} {H H':za} {v:AV} (h:stepC P own ops .b o env H v H'):stepC P own ops .q o env H v H':=by
 obtain⟨h1,rfl,pre,h2,h3⟩:=h
 exact⟨h1,rfl,.inl ⟨pre,zi3 (zys _) h1 h2,h3⟩⟩

theorem z2t {o:Oper} {env:Env} {H H':za} {v:AV} (h:stepC P own ops .o o env H v H'):stepC P own ops .q o env H v H':=by
 obtain⟨h1,rfl,⟨pre,h2,h3⟩ | ⟨x,h2,h3,h4⟩⟩:=h
 ·exact⟨h1,rfl,.inl ⟨pre,zi3 (zs5 own ops _) h1 h2,h3⟩⟩
 ·exact⟨h1,rfl,.inr ⟨x,h2,zrx (zs5 own ops _) h3,zqa h1 h3⟩⟩

theorem zbdi {c : Cls} {o : Oper} {env : Env} {H H' : za} {v : AV} (h : stepC P own ops c o env H v H') {W : Env → za → Prop} (hW : W (putA env o.dst v) H') :
  match exAll P own o (ev env) H with
   | some (pre,v,H')=>pre∧W (putA env o.dst v) H'
   | none=>callK P o W env H:=by
 have hq : stepC P own ops .q o env H v H' → (match exAll P own o (ev env) H with
   | some (pre,v,H')=>pre∧W (putA env o.dst v) H'
   | none=>callK P o W env H):=fun h=>by
  obtain⟨h1,rfl,h2 | ⟨x,rfl,h2,h3⟩⟩:=h
  ·obtain⟨pre,h3,h4⟩:=h2
   unfold quietOp at h1
   rw[Bool.and_eq_true] at h1
   rw[zgc h1.1,h3]
   exact⟨h4,hW⟩
  ·rw[h3]
   exact .inl (.inl ⟨[],zt8 h2 hW⟩)
 cases c with
 | p =>
  obtain⟨pre,h1,h2,rfl,h3⟩:=h
  rw[zgc h3]
  unfold exM
  rw[h1]
  exact⟨h2,hW⟩
 | b=>exact hq (z2y h)
 | q=>exact hq h
 | o=>exact hq (z2t h)
 | w =>
  obtain⟨pre,h1,h2⟩:=h
  rw[h1]
  exact⟨h2,hW⟩
 | s =>
  obtain⟨pre,h1,h2⟩:=h
  rw[h1]
  exact⟨h2,hW⟩
 | f =>
  obtain⟨hq',k,als,ps,b,r,id,h1,h2,h3,h4,h5,rfl,rfl⟩:=h
  rw[z4n hq' h1]
  exact .inl (.inr (.inr ⟨[],.inl ⟨k,als,ps,b,_,id,h1,zii (fun a r=>zv2 (zs5 own ops H)) h2,h3,fun r' hr=>by subst hr; exact⟨h4,fun i a b=>(h5 i a b).1,hW⟩⟩⟩))

def aOp (P:Program) (own:List Nat) (ops:Array Oper) (i:Nat) (W:Env→za→Prop) (env:Env) (H:za):Prop:=match ops[i]? with
 | none=>W env H
 | some o=>(guardA ops o env=some false∧W (putA env o.dst (.tup [])) H)∨(guardA ops o env=some true∧stOk own ops o env∧∃c v H',stepC P own ops c o env H v H'∧W (putA env o.dst v) H')

def anyA (P:Program) (own:List Nat) (ops:Array Oper) (K:Env→za→Prop):Nat→Array Bool→Env→za→Prop
 | 0,listed,env,H=>Region.ready .any ops listed=[]∧K env H
 | fuel+1,listed,env,H=>(Region.ready .any ops listed=[]→K env H) ∧
  ∀i∈Region.ready .any ops listed,aOp P own ops i (anyA P own ops K fuel (listed.setIfInBounds i true)) env H

theorem zm0 {C : Ctx} (hd : ∀ (i : Nat) o, ops[i]? = some o → dstOk C.n o.dst) {Q : Exit → Act → World → Prop}
  (hK:∀env H I L tm w,K env H→Sim C env H I L tm w→Q .normal ⟨tm,[]⟩ w):∀ (fuel:Nat) (listed:Array Bool) (env:Env) (H:za) (I:Mem) (L:zbl) (tm:Array Value) (w:World),
  anyA P own ops K fuel listed env H→Sim C env H I L tm w→wpAny P .any ops Q fuel listed ⟨tm,[]⟩ w
 | 0,listed,env,H,I,L,tm,w,h,hs=>⟨h.1,hK env H I L tm w h.2 hs⟩
 | fuel+1,listed,env,H,I,L,tm,w,h,hs=>by
  refine⟨fun h0=>hK env H I L tm w (h.1 h0) hs,fun i hi=>?_⟩
  have hi:=h.2 i hi
  unfold aOp at hi
  unfold wpOp
  cases ho:ops[i]? with
  | none =>
   rw[ho] at hi
   exact zm0 hd hK fuel _ env H I L tm w hi hs
  | some o =>
   rw[ho] at hi
   simp only[]
   have hdo:=hd i o ho
   rcases hi with ⟨hg,hi⟩ | ⟨hg,_,c,v,H',hst,hi⟩
   ·rw[if_neg (by rw[zib hg hs]; simp)]
    have e:(Act.put ⟨tm,[]⟩ o.dst undef:Act)=⟨(Act.put ⟨tm,[]⟩ o.dst undef).tmps,[]⟩:=by cases o.dst<;>rfl
    rw[e]
    exact zm0 hd hK fuel _ _ H I L _ w hi (hs.putA hdo (.tup [] [] rfl (by simp)) [])
   ·rw[if_pos (zib hg hs)]
    exact .inl (z2o (zbdi hst hi) hs hdo fun env' H' I' L' tm' w' hw hs'=>zm0 hd hK fuel _ env' H' I' L' tm' w' hw hs')

def ancOk (ops:Array Oper) (anc:Nat→Nat→Bool):Bool :=
 (List.range ops.size).all fun j=>(List.range ops.size).all fun i=>!anc j i||match ops[j]? with
  | some o=>o.after.toList.any fun e=>Region.binds .any e&&decide (e.on<j)&&(e.on == i||anc e.on i)
  | none=>false

theorem zty {anc : Nat → Nat → Bool} (h : ancOk ops anc = true) {i j : Nat} {o : Oper} (hj : ops[j]? = some o) (hi : i < ops.size) (ha : anc j i = true) :
  ∃e∈o.after,Region.binds .any e=true∧e.on<j∧(e.on=i∨anc e.on i=true):=by
 have hjlt:j<ops.size:=(Array.getElem?_eq_some_iff.1 hj).1
 have h1:=List.all_eq_true.1 h j (List.mem_range.2 hjlt)
 have h2:=List.all_eq_true.1 h1 i (List.mem_range.2 hi)
 rw[ha,hj] at h2
 simp only[Bool.not_true,Bool.false_or] at h2
 obtain⟨e,he,h3⟩:=List.any_eq_true.1 h2
 simp only[Bool.and_eq_true,decide_eq_true_eq,Bool.or_eq_true,beq_iff_eq] at h3
 exact⟨e,by simpa using he,h3.1.1,h3.1.2,h3.2⟩

def zmc (ops:Array Oper) (listed:Array Bool):Prop:=listed.size=ops.size∧∀j o,ops[j]? = some o→listed.getD j false=true→∀e∈o.after,Region.binds .any e=true→listed.getD e.on false=true

theorem zmc.set {listed:Array Bool} (h:zmc ops listed) {i:Nat} (hi:i∈Region.ready .any ops listed):zmc ops (listed.setIfInBounds i true):=by
 obtain⟨_,oi,hoi,hall⟩:=mem_ready.1 hi
 refine⟨by simpa using h.1,fun j o hj hl e he hb=>?_⟩
 by_cases hij:i=j
 ·subst hij
  have:o=oi:=Option.some.inj (hj.symm.trans hoi)
  subst this
  exact getD_set_true (hall e he hb)
 ·rw[getD_set_ne false hij] at hl
  exact getD_set_true (h.2 j o hj hl e he hb)

theorem zw9 {anc : Nat → Nat → Bool} (hA : ancOk ops anc = true) {listed : Array Bool} (hc : zmc ops listed) {i : Nat} (hi : i < ops.size) :
  ∀ (j:Nat),listed.getD j false=true→anc j i=true→listed.getD i false=true:=by
 intro j
 induction j using Nat.strongRecOn with
 | _ j ih =>
  intro hl ha
  have hjl:j<ops.size:=by
   rw[←hc.1]
   rcases Nat.lt_or_ge j listed.size with h | h
   ·exact h
   ·simp[Array.getElem?_eq_none h] at hl
  obtain⟨o,ho⟩:∃o,ops[j]? = some o:=⟨ops[j],by simp[hjl]⟩
  obtain⟨e,he,hb,hlt,h1⟩:=zty hA ho hi ha
  have hle:=hc.2 j o ho hl e he hb
  rcases h1 with rfl | h1
  ·exact hle
  ·exact ih e.on hlt hle h1

theorem z8s {anc:Nat→Nat→Bool} (hA:ancOk ops anc=true) {listed:Array Bool} (hc:zmc ops listed) {i j:Nat} (hi:i∈Region.ready .any ops listed) (hj:j∈Region.ready .any ops listed):anc j i=false:=by
 cases ha:anc j i with
 | false=>rfl
 | true =>
  exfalso
  obtain⟨hiu,oi,hoi,_⟩:=mem_ready.1 hi
  obtain⟨_,oj,hoj,hall⟩:=mem_ready.1 hj
  have hil:i<ops.size:=(Array.getElem?_eq_some_iff.1 hoi).1
  obtain⟨e,he,hb,hlt,h1⟩:=zty hA hoj hil ha
  have hle:=hall e he hb
  have:listed.getD i false=true:=by
   rcases h1 with rfl | h1
   ·exact hle
   ·exact zw9 hA hc hil e.on hle h1
  have h2:i<listed.size:=by rw[hc.1]; exact hil
  simp[h2] at hiu this
  rw[hiu] at this
  cases this

theorem zbil {env:Env} {d:Option Tmp} {v:AV} {x:Operand} (h:∀k,d=some k→x≠.tmp k):ev (putA env d v) x=ev env x:=by
 cases d with
 | none=>rfl
 | some k =>
  cases x with
  | tmp t =>
   have hne:t≠k:=fun e=>h k rfl (by rw[e])
   show upd env k v t=env t
   unfold upd
   rw[if_neg hne]
  | _=>rfl

theorem z80 {o:Oper} {t:Tmp} (h:Operand.tmp t∈o.op.operands):t∈o.looksAt ops:=by
 unfold Oper.looksAt
 rw[List.mem_append]
 left
 exact List.mem_filterMap.2 ⟨.tmp t,by simpa using h,rfl⟩

theorem zrw {o:Oper} {env:Env} {d:Option Tmp} {v:AV} (h:∀k,d=some k→k ∉ o.looksAt ops):∀x∈o.op.operands,ev (putA env d v) x=ev env x:=fun x hx =>
 zbil fun k hk e=>h k hk (z80 (by rw[←e]; exact hx))

theorem zqc {o:Oper} {env:Env} {d:Option Tmp} {v:AV} (h:∀k,d=some k→k ∉ o.looksAt ops):guardA ops o (putA env d v)=guardA ops o env:=by
 unfold guardA
 cases hg:o.guard with
 | none=>rfl
 | some gw =>
  obtain⟨j,want⟩:=gw
  simp only[]
  cases hd:(ops[j]?).bind (·.dst) with
  | none=>rfl
  | some s =>
   simp only[]
   have:putA env d v s=env s:=by
    cases d with
    | none=>rfl
    | some k =>
     have hk:=h k rfl
     have hne:s≠k:=fun e=>hk (by
      unfold Oper.looksAt
      rw[List.mem_append]
      right
      rw[hg]
      simp only[]
      rw[hd,e]
      simp)
     show upd env k v s=env s
     unfold upd
     rw[if_neg hne]
   rw[this]

theorem zvz {env:Env} {d e:Option Tmp} {v u:AV} (h:∀k,d=some k→e≠some k):putA (putA env d v) e u=putA (putA env e u) d v:=by
 cases d with
 | none=>rfl
 | some k =>
  cases e with
  | none=>rfl
  | some m=>exact zbbg env v u fun hkm=>h k rfl (by rw[hkm])

theorem zzr {o:Oper} {env:Env} {d:Option Tmp} {v:AV} (h:∀k,d=some k→k ∉ o.looksAt ops):stOk own ops o (putA env d v)↔stOk own ops o env:=by
 have hop:∀x∈o.op.operands,ev (putA env d v) x=ev env x:=zrw (ops:=ops) h
 have h2:stApp o (putA env d v)↔stApp o env:=by
  unfold stApp
  cases ha:appArg o.op with
  | none=>rfl
  | some r =>
   obtain⟨a,s⟩:=r
   obtain⟨t1,t2,e⟩:=zog ha
   have e1:ev (putA env d v) (.tmp a)=ev env (.tmp a):=hop _ (by rw[e]; simp[Op.operands,Call.operands])
   have e2:ev (putA env d v) s=ev env s:=hop _ (by rw[e]; simp[Op.operands,Call.operands])
   have e1':putA env d v a=env a:=e1
   simp only[e1',e2]
 unfold stOk
 rw[h2]
 cases ho:o.op with
 | store t a x =>
  cases a with
  | tmp k =>
   have h1:ev (putA env d v) (.tmp k)=ev env (.tmp k):=hop _ (by rw[ho]; simp[Op.operands])
   have h2:putA env d v k=env k:=h1
   simp only[h2]
  | _=>rfl
 | _=>rfl

theorem zvy {c:Cls} {o:Oper} {env:Env} {H H':za} {v u:AV} {d:Option Tmp} (h:∀k,d=some k→k ∉ o.looksAt ops):stepC P own ops c o (putA env d u) H v H'↔stepC P own ops c o env H v H':=by
 have hop:∀x∈o.op.operands,ev (putA env d u) x=ev env x:=zrw (ops:=ops) h
 have hop':∀x∈o.op.operands,ev env x=ev (putA env d u) x:=fun x hx=>(hop x hx).symm
 cases c with
 | p=>simp only[stepC,zwz hop]
 | q =>
  simp only[stepC,zn9 hop,zlt hop]
  constructor
  ·rintro⟨h1,h2,h3 | ⟨x,h3,h4,h5⟩⟩
   ·exact⟨h1,h2,.inl h3⟩
   ·exact⟨h1,h2,.inr ⟨x,h3,zls hop h4,h5⟩⟩
  ·rintro⟨h1,h2,h3 | ⟨x,h3,h4,h5⟩⟩
   ·exact⟨h1,h2,.inl h3⟩
   ·exact⟨h1,h2,.inr ⟨x,h3,zls hop' h4,h5⟩⟩
 | o =>
  simp only[stepC,zn9 hop,zlt hop]
  constructor
  ·rintro⟨h1,h2,h3 | ⟨x,h3,h4,h5⟩⟩
   ·exact⟨h1,h2,.inl h3⟩
   ·exact⟨h1,h2,.inr ⟨x,h3,zls hop h4,h5⟩⟩
  ·rintro⟨h1,h2,h3 | ⟨x,h3,h4,h5⟩⟩
   ·exact⟨h1,h2,.inl h3⟩
   ·exact⟨h1,h2,.inr ⟨x,h3,zls hop' h4,h5⟩⟩
 | b=>simp only[stepC,zn9 hop]
 | w=>simp only[stepC,zlt hop]
 | s=>simp only[stepC,zlt hop]
 | f=>exact⟨fun h=>⟨h.1,zrj hop h.2⟩,fun h=>⟨h.1,zrj hop' h.2⟩⟩

theorem zoh {c:Cls} {o:Oper} {env:Env} {H H':za} {v:AV} (hq:quietOp own o=true) (h:stepC P own ops c o env H v H'):HSub H H':=by
 have key:H'=H→HSub H H':=fun e=>by rw[e]; exact fun _ _ h=>h
 cases c with
 | p=>obtain⟨_,_,_,h,_⟩:=h; exact key h
 | q=>exact key h.2.1
 | b=>exact key h.2.1
 | o=>exact key h.2.1
 | w=>obtain⟨pre,h1,_⟩:=h; exact key (zj8 hq h1)
 | s=>obtain⟨pre,h1,_⟩:=h; exact key (zj8 hq h1)
 | f=>exact zov h.2

theorem zp4 {c:Cls} {o:Oper} {env:Env} {H H':za} {v:AV} (hq:pureOp own o=true) (h:stepC P own ops c o env H v H'):H'=H∧∀G,stepC P own ops .p o env G v G:=by
 have hown:(match o.dst with | some d=>!own.contains d | none=>true)=true:=by
  unfold pureOp at hq; rw[Bool.and_eq_true] at hq; exact hq.1
 have hqq:stepC P own ops .q o env H v H'→H'=H∧∀G,stepC P own ops .p o env G v G:=fun h=>by
  obtain⟨_,rfl,⟨pre,h1,h2⟩ | ⟨x,_,h1,_⟩⟩:=h
  ·rw[zxx hq] at h1
   cases hp:exP P o (ev env) with
   | none=>rw[hp] at h1; cases h1
   | some r =>
    obtain⟨pre',v'⟩:=r
    rw[hp] at h1
    simp only[Option.some.injEq,Prod.mk.injEq] at h1
    obtain⟨rfl,rfl,_⟩:=h1
    exact⟨rfl,fun G=>⟨pre',hp,h2,rfl,hown⟩⟩
  ·obtain⟨k,als,ps,b,hc,_⟩:=h1
   rw[zv6 hq] at hc
   cases hc
 cases c with
 | p =>
  obtain⟨pre,h1,h2,h3,h4⟩:=h
  exact⟨h3,fun G=>⟨pre,h1,h2,rfl,h4⟩⟩
 | b=>exact hqq (z2y h)
 | q=>exact hqq h
 | o=>exact hqq (z2t h)
 | w =>
  obtain⟨pre,h1,h2⟩:=h
  rw[zuc hq] at h1
  cases hp:exP P o (ev env) with
  | none=>rw[hp] at h1; cases h1
  | some r =>
   obtain⟨pre',v'⟩:=r
   rw[hp] at h1
   simp only[Option.some.injEq,Prod.mk.injEq] at h1
   obtain⟨rfl,rfl,rfl⟩:=h1
   exact⟨rfl,fun G=>⟨pre',hp,h2,rfl,hown⟩⟩
 | s =>
  obtain⟨pre,h1,h2⟩:=h
  rw[zuc hq] at h1
  cases hp:exP P o (ev env) with
  | none=>rw[hp] at h1; cases h1
  | some r =>
   obtain⟨pre',v'⟩:=r
   rw[hp] at h1
   simp only[Option.some.injEq,Prod.mk.injEq] at h1
   obtain⟨rfl,rfl,rfl⟩:=h1
   exact⟨rfl,fun G=>⟨pre',hp,h2,rfl,hown⟩⟩
 | f =>
  obtain⟨_,k,als,ps,b,r,id,h1,_⟩:=h
  rw[zv6 hq] at h1
  cases h1

def Head (P:Program) (own:List Nat) (ops:Array Oper) (c:Cls) (o:Oper) (env:Env) (H:za) (v:AV) (H':za):Prop :=
 (guardA ops o env=some false∧v = .tup []∧H'=H)∨(guardA ops o env=some true∧stOk own ops o env∧stepC P own ops c o env H v H')

theorem Head.aOp {c:Cls} {i:Nat} {o:Oper} {env:Env} {H H':za} {v:AV} (hi:ops[i]? = some o) (h:Head P own ops c o env H v H') {W:Env→za→Prop} (hW:W (putA env o.dst v) H'):aOp P own ops i W env H:=by
 unfold Abs.aOp
 rw[hi]
 rcases h with ⟨h1,rfl,rfl⟩ | ⟨h1,hst,h2⟩
 ·exact .inl ⟨h1,hW⟩
 ·exact .inr ⟨h1,hst,c,v,H',h2,hW⟩

theorem Head.put {c:Cls} {o:Oper} {env:Env} {H H':za} {v u:AV} {d:Option Tmp} (h:∀k,d=some k→k ∉ o.looksAt ops) (hh:Head P own ops c o env H v H'):Head P own ops c o (putA env d u) H v H':=by
 unfold Head at *
 rw[zqc h,zvy h,zzr h]
 exact hh

def swapOk (own:List Nat) (ops:Array Oper) (c:Cls) (oi oj:Oper):Bool:=oi.apart ops oj&&match c with
 | .p=>true
 | .b=>quietOp own oj||newOp own oj||appOp oj
 | .q=>quietOp own oj||newOp own oj
 | .o=>quietOp own oj||newOp own oj||(locId own ops oj).isSome
 | .w=>pureOp own oj||(match locId own ops oi,locId own ops oj with
  | some x,some y=>x != y
  | _,_=>false)
 | .s=>pureOp own oj||(match locId own ops oi,locId own ops oj with
  | some x,some y=>x != y
  | _,_=>false)
 | .f=>pureOp own oj||(locId own ops oj).isSome

theorem zrb {c:Cls} {o:Oper} {env:Env} {H H':za} {v:AV} (hn:newOp own o=true) (h:stepC P own ops c o env H v H'):HSub H H':=by
 cases c with
 | p=>obtain⟨_,_,_,h3,_⟩:=h; rw[h3]; exact fun _ _ h=>h
 | b=>rw[h.2.1]; exact fun _ _ h=>h
 | q=>rw[h.2.1]; exact fun _ _ h=>h
 | o=>rw[h.2.1]; exact fun _ _ h=>h
 | w=>obtain⟨pre,h1,_⟩:=h; exact zwq hn h1
 | s=>obtain⟨pre,h1,_⟩:=h; exact zwq hn h1
 | f=>exact zov h.2

theorem z8u {c:Cls} {o:Oper} {env:Env} {H H':za} {v:AV} (hn:appOp o=true) (h:stepC P own ops c o env H v H'):HSub (boxH H) (boxH H'):=by
 cases c with
 | p=>obtain⟨_,_,_,h3,_⟩:=h; rw[h3]; exact fun _ _ h=>h
 | b=>rw[h.2.1]; exact fun _ _ h=>h
 | q=>rw[h.2.1]; exact fun _ _ h=>h
 | o=>rw[h.2.1]; exact fun _ _ h=>h
 | w=>obtain⟨pre,h1,_⟩:=h; exact zvt hn h1
 | s=>obtain⟨pre,h1,_⟩:=h; exact zvt hn h1
 | f=>exact zn6 (zov h.2)

theorem Head.sub {o:Oper} {env:Env} {H G:za} {v:AV} (hs:HSub H G) (h:Head P own ops .q o env H v H):Head P own ops .q o env G v G:=by
 rcases h with ⟨h1,h2,_⟩ | ⟨h1,hst,h2,_,h3 | ⟨x,h3,h4,h5⟩⟩
 ·exact .inl ⟨h1,h2,rfl⟩
 ·obtain⟨pre,h3,h4⟩:=h3
  exact .inr ⟨h1,hst,h2,rfl,.inl ⟨pre,zi3 hs h2 h3,h4⟩⟩
 ·exact .inr ⟨h1,hst,h2,rfl,.inr ⟨x,h3,zrx hs h4,zqa h2 h4⟩⟩

theorem Head.subO {o:Oper} {env:Env} {H G:za} {v:AV} (hs:HSub (hidH own ops H) (hidH own ops G)) (h:Head P own ops .o o env H v H):Head P own ops .o o env G v G:=by
 rcases h with ⟨h1,h2,_⟩ | ⟨h1,hst,h2,_,h3 | ⟨x,h3,h4,h5⟩⟩
 ·exact .inl ⟨h1,h2,rfl⟩
 ·obtain⟨pre,h3,h4⟩:=h3
  exact .inr ⟨h1,hst,h2,rfl,.inl ⟨pre,zi3 hs h2 h3,h4⟩⟩
 ·exact .inr ⟨h1,hst,h2,rfl,.inr ⟨x,h3,zrx hs h4,zqa h2 h4⟩⟩

theorem zp7 {c:Cls} {o:Oper} {env:Env} {H H':za} {v:AV} {d:Nat} (hl:locId own ops o=some d) (hs:stOk own ops o env) (h:stepC P own ops c o env H v H'):∃pre,exAll P own o (ev env) H=some (pre,v,H')∧pre:=by
 obtain⟨dst,op,t,pos,af,g⟩:=o
 have hw:(stepC P own ops .w ⟨dst,op,t,pos,af,g⟩ env H v H'→∃pre,exAll P own ⟨dst,op,t,pos,af,g⟩ (ev env) H=some (pre,v,H')∧pre):=fun h=>h
 have hcl:∀cl,op = .call cl→quietOp own ⟨dst,op,t,pos,af,g⟩=false∧exP P ⟨dst,op,t,pos,af,g⟩ (ev env)=none:=by
  intro cl e
  subst e
  have hl':appDst own ops ⟨dst,.call cl,t,pos,af,g⟩=some d:=hl
  have hst:=hs.2 (by rw[hl']; rfl)
  unfold appDst at hl'
  unfold stApp at hst
  cases ha:appArg (Op.call cl) with
  | none=>simp only[ha] at hl'; cases hl'
  | some r =>
   obtain⟨a,s⟩:=r
   obtain⟨t1,t2,e2⟩:=zog ha
   simp only[ha] at hst
   obtain⟨⟨ver,h1⟩,x,h2⟩:=hst
   simp only[Op.call.injEq] at e2
   subst e2
   refine⟨by simp[quietOp],?_⟩
   have h1':ev env (.tmp a) = .row a ver:=h1
   simp[exP,builtinX,appP,isNil,h1',h2]
 cases c with
 | w=>exact h
 | s=>exact h
 | p =>
  obtain⟨pre,h1,_,_,h4⟩:=h
  cases op<;>simp only[locId] at hl<;>try (cases hl; done)
  case call cl=>rw[(hcl cl rfl).2] at h1; cases h1
  case buildSlice =>
   exfalso
   cases dst with
   | none=>cases hl
   | some k =>
    simp only at hl h4
    split at hl
    ·rename_i hn; rw[hn] at h4; cases h4
    ·cases hl
  case makeSlice =>
   exfalso
   cases dst with
   | none=>cases hl
   | some k =>
    simp only at hl h4
    split at hl
    ·rename_i hn; rw[hn] at h4; cases h4
    ·cases hl
  all_goals simp[exP] at h1
 | b | q | o | f =>
  exfalso
  have hq:=h.1
  cases op<;>simp only[locId] at hl<;>try (cases hl; done)
  case call cl=>rw[(hcl cl rfl).1] at hq; cases hq
  all_goals(cases dst<;>simp[quietOp] at hq hl)<;>exact hq hl.1
theorem zyb {ci cj : Cls} {oi oj : Oper} {env : Env} {H H' Hj : za} {v v' : AV} {d d' : Nat} (hi : locId own ops oi = some d) (hj : locId own ops oj = some d') (hne : d ≠ d') (hsi : stOk own ops oi env) (hsj : stOk own ops oj env)
  (h1:stepC P own ops ci oi env H v H') (h2:stepC P own ops cj oj env H' v' Hj):∃G,stepC P own ops .w oj env H v' G∧stepC P own ops .w oi env G v Hj∧HSub (hidH own ops H) (hidH own ops G):=by
 obtain⟨pre,e1,hp⟩:=zp7 hi hsi h1
 obtain⟨pre',e2,hp'⟩:=zp7 hj hsj h2
 obtain⟨⟨φ,hφ⟩,n1⟩:=zqi (P:=P) hi hsi
 obtain⟨⟨ψ,hψ⟩,n2⟩:=zqi (P:=P) hj hsj
 rw[hφ] at e1
 rw[hψ] at e2
 cases a1:φ (H d) with
 | none=>rw[a1] at e1; cases e1
 | some r =>
  obtain⟨p1,v1,c1⟩:=r
  rw[a1] at e1
  simp only[Option.some.injEq,Prod.mk.injEq] at e1
  obtain⟨rfl,rfl,rfl⟩:=e1
  have a2:hset H d c1 d'=H d':=by simp[hset,Ne.symm hne]
  rw[a2] at e2
  cases a3:ψ (H d') with
  | none=>rw[a3] at e2; cases e2
  | some r =>
   obtain⟨p2,v2,c2⟩:=r
   rw[a3] at e2
   simp only[Option.some.injEq,Prod.mk.injEq] at e2
   obtain⟨rfl,rfl,rfl⟩:=e2
   refine⟨hset H d' c2,⟨p2,by rw[hψ,a3],hp'⟩,⟨p1,?_,hp⟩,by rw[zta own ops H c2 n2]; exact fun _ _ h=>h⟩
   have a4:hset H d' c2 d=H d:=by simp[hset,hne]
   rw[hφ,a4,a1,zwi H c1 c2 hne]
theorem zbgs {c:Cls} {o:Oper} {env:Env} {H H':za} {v:AV} {d:Nat} (hl:locId own ops o=some d) (hs:stOk own ops o env) (h:stepC P own ops c o env H v H'):hidH own ops H'=hidH own ops H:=by
 obtain⟨pre,e1,hp⟩:=zp7 hl hs h
 obtain⟨⟨φ,hφ⟩,n1⟩:=zqi (P:=P) hl hs
 rw[hφ] at e1
 cases a1:φ (H d) with
 | none=>rw[a1] at e1; cases e1
 | some r =>
  obtain⟨p1,v1,c1⟩:=r
  rw[a1] at e1
  simp only[Option.some.injEq,Prod.mk.injEq] at e1
  obtain⟨rfl,rfl,rfl⟩:=e1
  exact zta own ops H c1 n1

theorem z72 {cj : Cls} {oi oj : Oper} {env : Env} {H H' Hj : za} {v v' : AV} {d' : Nat} (hj : locId own ops oj = some d') (hsj : stOk own ops oj env)
  (h1:stepC P own ops .f oi env H v H') (h2:stepC P own ops cj oj env H' v' Hj):∃G,stepC P own ops .w oj env H v' G∧stepC P own ops .f oi env G v Hj:=by
 obtain⟨pre',e2,hp'⟩:=zp7 hj hsj h2
 obtain⟨⟨ψ,hψ⟩,n2⟩:=zqi (P:=P) hj hsj
 obtain⟨hq,k,als,ps,b,r,id,g1,g2,g3,g4,g5,rfl,rfl⟩:=h1
 have hd:d'<id∨(placeA id r).2≤d':=by
  rcases Nat.lt_or_ge d' id with h | h
  ·exact .inl h
  ·rcases Nat.lt_or_ge d' (placeA id r).2 with h' | h'
   ·rw[(g5 d' h h').2] at n2; cases n2
   ·exact .inr h'
 rw[hψ,zp8 r id H d' hd] at e2
 cases a3:ψ (H d') with
 | none=>rw[a3] at e2; cases e2
 | some q =>
  obtain⟨p2,v2,c2⟩:=q
  rw[a3] at e2
  simp only[Option.some.injEq,Prod.mk.injEq] at e2
  obtain⟨rfl,rfl,rfl⟩:=e2
  refine⟨hset H d' c2,⟨p2,by rw[hψ,a3],hp'⟩,hq,k,als,ps,b,r,id,g1,by rw[zta own ops H c2 n2]; exact g2,g3,g4,fun i hi1 hi2=>⟨?_,(g5 i hi1 hi2).2⟩,rfl,(z06 r id H d' c2 hd).symm⟩
  have hne:i≠d':=by omega
  simp only[hset,if_neg hne]
  exact (g5 i hi1 hi2).1

theorem Head.subB {o:Oper} {env:Env} {H G:za} {v:AV} (hs:HSub (boxH H) (boxH G)) (h:Head P own ops .b o env H v H):Head P own ops .b o env G v G:=by
 rcases h with ⟨h1,h2,_⟩ | ⟨h1,hst,h2,_,pre,h3,h4⟩
 ·exact .inl ⟨h1,h2,rfl⟩
 ·exact .inr ⟨h1,hst,h2,rfl,pre,zi3 hs h2 h3,h4⟩

theorem z8f {anc : Nat → Nat → Bool} (hA : ancOk ops anc = true) {i : Nat} {oi : Oper} {c : Cls} {v : AV} (hi : ops[i]? = some oi) :
  ∀ (fuel:Nat) (listed:Array Bool) (env:Env) (H H':za),zmc ops listed →
   (∀j oj,ops[j]? = some oj→j≠i→listed.getD j true=false→anc j i=false→swapOk own ops c oi oj=true) →
   i∈Region.ready .any ops listed→Head P own ops c oi env H v H'→(c≠.w→c≠.s→c≠.f→H'=H) →
   anyA P own ops K fuel (listed.setIfInBounds i true) (putA env oi.dst v) H'→anyA P own ops K (fuel+1) listed env H:=by
 intro fuel
 induction fuel with
 | zero =>
  intro listed env H H' _ _ hr hy _ hk
  refine⟨fun h=>(by rw[h] at hr; cases hr),fun j hj=>?_⟩
  by_cases hji:j=i
  ·subst hji; exact hy.aOp hi hk
  ·have:=ready_mono hj hji
   rw[hk.1] at this
   cases this
 | succ fuel ih =>
  intro listed env H H' hcl hfree hr hy hqH hk
  refine⟨fun h=>(by rw[h] at hr; cases hr),fun j hj=>?_⟩
  by_cases hji:j=i
  ·subst hji; exact hy.aOp hi hk
  ·have h1:=hk.2 j (ready_mono hj hji)
   obtain⟨hjun,oj,hoj,hall⟩:=mem_ready.1 hj
   have hnot:∀e∈oj.after,Region.binds .any e=true→e.on≠i:=fun e he hb heq=>by
    have h1:=hall e he hb
    have h0:=(mem_ready.1 hr).1
    rw[heq] at h1
    rcases Nat.lt_or_ge i listed.size with h' | h'
    ·simp[h'] at h0 h1; rw[h0] at h1; cases h1
    ·simp[Array.getElem?_eq_none h'] at h1
   have hsw:=hfree j oj hoj hji hjun (z8s hA hcl hr hj)
   unfold swapOk at hsw
   rw[Bool.and_eq_true] at hsw
   obtain⟨a1,a2,a3⟩:=Oper.apart_spec hsw.1
   have hfree':∀k ok,ops[k]? = some ok→k≠i→(listed.setIfInBounds j true).getD k true=false→anc k i=false→swapOk own ops c oi ok=true:=fun k ok hk hki hun hno=>by
    refine hfree k ok hk hki ?_ hno
    by_cases hjk:j=k
    ·subst hjk; exact hjun
    ·rw[getD_set_ne true hjk] at hun; exact hun
   have hcl':=hcl.set hj
   have hri:=ready_mono hr (Ne.symm hji)
   unfold Abs.aOp at h1 ⊢
   rw[hoj] at h1 ⊢
   rw[Array.setIfInBounds_comm _ _ (Ne.symm hji)] at h1
   rcases h1 with ⟨hg,hw⟩ | ⟨hg,hso,c',v',Hj,hst,hw⟩
   ·rw[zqc a1] at hg
    refine .inl ⟨hg,ih _ _ H H' hcl' hfree' hri (hy.put a3) hqH ?_⟩
    rw[zvz a2] at hw
    exact hw
   ·rw[zqc a1] at hg
    rw[zvy a1] at hst
    rw[zzr a1] at hso
    rw[zvz a2] at hw
    cases c with
    | p =>
     have e1:H'=H:=hqH (by simp) (by simp) (by simp)
     subst e1
     refine .inr ⟨hg,hso,c',v',Hj,hst,ih _ _ Hj Hj hcl' hfree' hri ?_ (fun _ _ _=>rfl) hw⟩
     have hy':=hy.put (d:=oj.dst) (u:=v') a3
     rcases hy' with ⟨k1,k2,_⟩ | ⟨k1,ko,pre,k2,k3,_,k4⟩
     ·exact .inl ⟨k1,k2,rfl⟩
     ·exact .inr ⟨k1,ko,pre,k2,k3,rfl,k4⟩
    | q =>
     have e1:H'=H:=hqH (by simp) (by simp) (by simp)
     subst e1
     have hs2:HSub H' Hj:=by
      rcases (Eq.to_iff (Bool.or_eq_true _ _)).mp hsw.2 with h | h
      ·exact zoh h hst
      ·exact zrb h hst
     exact .inr ⟨hg,hso,c',v',_,hst,ih _ _ _ _ hcl' hfree' hri ((hy.put a3).sub hs2) (fun _ _ _=>rfl) hw⟩
    | b =>
     have e1:H'=H:=hqH (by simp) (by simp) (by simp)
     subst e1
     have hs2:HSub (boxH H') (boxH Hj):=by
      rcases (Eq.to_iff (Bool.or_eq_true _ _)).mp hsw.2 with h | h
      ·rcases (Eq.to_iff (Bool.or_eq_true _ _)).mp h with h | h
       ·exact zn6 (zoh h hst)
       ·exact zn6 (zrb h hst)
      ·exact z8u h hst
     exact .inr ⟨hg,hso,c',v',_,hst,ih _ _ _ _ hcl' hfree' hri ((hy.put a3).subB hs2) (fun _ _ _=>rfl) hw⟩
    | w =>
     rcases (Eq.to_iff (Bool.or_eq_true _ _)).mp hsw.2 with hp | hl
     ·obtain⟨e2,hpure⟩:=zp4 hp hst
      subst e2
      exact .inr ⟨hg,hso,.p,v',H,hpure H,ih _ _ H _ hcl' hfree' hri (hy.put a3) (fun h=>absurd rfl h) hw⟩
     ·split at hl
      ·rename_i d d' hd hd'
       have hne:d≠d':=by simpa using hl
       rcases hy with ⟨k1,k2,k3⟩ | ⟨k1,ko,k2⟩
       ·subst k3
        exact .inr ⟨hg,hso,c',v',Hj,hst,ih _ _ Hj Hj hcl' hfree' hri (Head.put a3 (.inl ⟨k1,k2,rfl⟩)) (fun h=>absurd rfl h) hw⟩
       ·obtain⟨G,m1,m2,_⟩:=zyb hd hd' hne ko hso k2 hst
        exact .inr ⟨hg,hso,.w,v',G,m1,ih _ _ G Hj hcl' hfree' hri (Head.put a3 (.inr ⟨k1,ko,m2⟩)) (fun h=>absurd rfl h) hw⟩
      ·cases hl
    | o =>
     have e1:H'=H:=hqH (by simp) (by simp) (by simp)
     subst e1
     have hs2:HSub (hidH own ops H') (hidH own ops Hj):=by
      rcases (Eq.to_iff (Bool.or_eq_true _ _)).mp hsw.2 with h | h
      ·rcases (Eq.to_iff (Bool.or_eq_true _ _)).mp h with h | h
       ·exact zwr own ops (zoh h hst)
       ·exact zwr own ops (zrb h hst)
      ·obtain⟨d,hd⟩:=Option.isSome_iff_exists.1 h
       rw[zbgs hd hso hst]; exact fun _ _ h=>h
     exact .inr ⟨hg,hso,c',v',_,hst,ih _ _ _ _ hcl' hfree' hri ((hy.put a3).subO hs2) (fun _ _ _=>rfl) hw⟩
    | s =>
     rcases (Eq.to_iff (Bool.or_eq_true _ _)).mp hsw.2 with hp | hl
     ·obtain⟨e2,hpure⟩:=zp4 hp hst
      subst e2
      exact .inr ⟨hg,hso,.p,v',H,hpure H,ih _ _ H _ hcl' hfree' hri (hy.put a3) (fun _ h=>absurd rfl h) hw⟩
     ·split at hl
      ·rename_i d d' hd hd'
       have hne:d≠d':=by simpa using hl
       rcases hy with ⟨k1,k2,k3⟩ | ⟨k1,ko,k2⟩
       ·subst k3
        exact .inr ⟨hg,hso,c',v',Hj,hst,ih _ _ Hj Hj hcl' hfree' hri (Head.put a3 (.inl ⟨k1,k2,rfl⟩)) (fun _ h=>absurd rfl h) hw⟩
       ·obtain⟨G,m1,m2s,_⟩:=zyb hd hd' hne ko hso k2 hst
        exact .inr ⟨hg,hso,.w,v',G,m1,ih _ _ G Hj hcl' hfree' hri (Head.put a3 (.inr ⟨k1,ko,m2s⟩)) (fun _ h=>absurd rfl h) hw⟩
      ·cases hl
    | f =>
     rcases (Eq.to_iff (Bool.or_eq_true _ _)).mp hsw.2 with hp | hl
     ·obtain⟨e2,hpure⟩:=zp4 hp hst
      subst e2
      exact .inr ⟨hg,hso,.p,v',H,hpure H,ih _ _ H _ hcl' hfree' hri (hy.put a3) (fun _ _ h=>absurd rfl h) hw⟩
     ·obtain⟨d',hd'⟩:=Option.isSome_iff_exists.1 hl
      rcases hy with ⟨k1,k2,k3⟩ | ⟨k1,ko,k2⟩
      ·subst k3
       exact .inr ⟨hg,hso,c',v',Hj,hst,ih _ _ Hj Hj hcl' hfree' hri (Head.put a3 (.inl ⟨k1,k2,rfl⟩)) (fun _ _ h=>absurd rfl h) hw⟩
      ·obtain⟨G,m1,m2⟩:=z72 hd' hso k2 hst
       exact .inr ⟨hg,hso,.w,v',G,m1,ih _ _ G Hj hcl' hfree' hri (Head.put a3 (.inr ⟨k1,ko,m2⟩)) (fun _ _ h=>absurd rfl h) hw⟩

def drawFrom (own:List Nat) (ops:Array Oper) (anc:Nat→Nat→Bool):List (Nat×Cls)→Array Bool→Bool
 | [],listed=>(Region.ready .any ops listed).isEmpty
 | (i, c) :: rest, listed => (Region.ready .any ops listed).contains i && (match ops[i]? with
   | some oi=>(List.range ops.size).all fun j=>j == i||listed.getD j true||anc j i||(match ops[j]? with
    | some oj=>swapOk own ops c oi oj
    | none=>true)
   | none=>false)&&drawFrom own ops anc rest (listed.setIfInBounds i true)

def walkC (P:Program) (N:Nat) (own:List Nat) (ops:Array Oper):List (Oper×Cls)→(Env→za→Prop)→Env→za→Prop
 | [],K,env,H=>K env H
 | (o,c) :: rest,K,env,H=>dstOk N o.dst∧∃v H',Head P own ops c o env H v H'∧(match c with | .w=>True | .s=>True | .f=>True | _=>H'=H)∧walkC P N own ops rest K (putA env o.dst v) H'

theorem zre {anc : Nat → Nat → Bool} (hA : ancOk ops anc = true) : ∀ (l : List (Nat × Cls)) (os : List (Oper × Cls)) (listed : Array Bool) (env : Env) (H : za), zmc ops listed →
  os.map (·.1)=l.filterMap (fun x=>ops[x.1]?)→os.map (·.2)=l.map (·.2)→drawFrom own ops anc l listed=true→walkC P N own ops os K env H→anyA P own ops K l.length listed env H
 | [],os,listed,env,H,_,h1,h2,h3,hw=>by
  have:os=[]:=by simpa using h2
  subst this
  exact⟨by simpa[drawFrom] using h3,hw⟩
 | (i,c) :: l,[],listed,env,H,_,h1,h2,h3,hw=>by simp at h2
 | (i,c) :: l,(o,c') :: os,listed,env,H,hcl,h1,h2,h3,hw=>by
  simp only[drawFrom,Bool.and_eq_true] at h3
  obtain⟨⟨hr,hs⟩,hrest⟩:=h3
  cases hi:ops[i]? with
  | none=>rw[hi] at hs; cases hs
  | some oi =>
   rw[hi] at hs
   simp only[List.map_cons,List.filterMap_cons,hi,List.cons.injEq] at h1 h2
   obtain⟨e1,h1⟩:=h1
   obtain⟨e2,h2⟩:=h2
   subst e1 e2
   obtain⟨_,v,H',hy,hq,hw⟩:=hw
   have hready:i∈Region.ready .any ops listed:=by simpa using hr
   refine z8f hA hi l.length listed env H H' hcl (fun j oj hoj hji hun hno=>?_) hready hy (fun hne hne' hne2=>by cases c'<;>first | exact hq | exact absurd rfl hne | exact absurd rfl hne' | exact absurd rfl hne2)
    (zre hA l os _ _ H' (hcl.set hready) h1 h2 hrest hw)
   have hjl:j<ops.size:=(Array.getElem?_eq_some_iff.1 hoj).1
   have:=List.all_eq_true.1 hs j (List.mem_range.2 hjl)
   simp only[hun,hno,hoj,Bool.or_eq_true,beq_iff_eq,Bool.or_false] at this
   rcases this with h | h
   ·exact absurd h hji
   ·exact h

def masks (ops:Array Oper):List Nat:=(Region.before ops).toList
def ancM (m:List Nat) (j i:Nat):Bool:=(m.getD j 0).testBit i

def drawOk (own:List Nat) (ops:Array Oper) (m:List Nat) (l:List (Nat×Cls)):Bool :=
 ancOk ops (ancM m)&&drawFrom own ops (ancM m) l (Array.replicate ops.size false)&&l.length == ops.size&&ops.toList.all fun o=>match o.dst with | some _=>true | none=>true

theorem zwu {env : Env} {H : za} (m : List Nat) (l : List (Nat × Cls)) (os : List (Oper × Cls)) (hok : drawOk own ops m l = true) (h1 : os.map (·.1) = l.filterMap (fun x => ops[x.1]?)) (h2 : os.map (·.2) = l.map (·.2))
  (hd:∀ (i:Nat) o,ops[i]? = some o→dstOk N o.dst) (hw:walkC P N own ops os K env H):drawW P N own ops K env H:=by
 unfold drawOk at hok
 simp only[Bool.and_eq_true,beq_iff_eq] at hok
 obtain⟨⟨⟨hA,hD⟩,hlen⟩,_⟩:=hok
 intro C I L tm w hN hs
 have hcl:zmc ops (Array.replicate ops.size false):=⟨by simp,fun j o hj hl=>by
  rcases Nat.lt_or_ge j ops.size with h | h
  ·simp[h] at hl
  ·simp[h] at hl⟩
 have hany:=zre (N:=N) hA l os _ env H hcl h1 h2 hD hw
 rw[hlen] at hany
 have hs':Sim C env H I L tm { w with drawn:=w.drawn+1 }:=(Fr.drew C I L H w) env tm hs
 exact zm0 (by rw[hN]; exact hd) (fun env' H' I' L' tm' w' hk hs''=>⟨rfl,rfl,env',H',I',L',hk,hs''⟩) ops.size _ env H I L tm _ hany hs'

end Go.Abs
namespace Go.Abs
open Go.RowKit

variable {P:Program} {N:Nat} {own:List Nat} {ops:Array Oper} {K:Env→za→Prop} {env:Env} {H:za}

def callD (P:Program) (o:Oper) (W:Env→za→Prop) (env:Env) (H:za):Prop :=
 ∃x,callS P o (ev env) H x∧W (putA env o.dst (.p x)) H

def callO (P:Program) (own:List Nat) (ops:Array Oper) (o:Oper) (W:Env→za→Prop) (env:Env) (H:za):Prop :=
 ∃x,callS P o (ev env) (hidH own ops H) x∧W (putA env o.dst (.p x)) H
def callFD (P:Program) (own:List Nat) (ops:Array Oper) (o:Oper) (W:Env→za→Prop) (env:Env) (H:za):Prop :=
 ∃v H',callFS P own ops o (ev env) H v H'∧W (putA env o.dst v) H'
def stPtr (o:Oper) (env:Env):Prop:=match o.op with
 | .store _ (.tmp d) _=>∃off,env d = .ptr d off
 | _=>stApp o env
def isS:Cls→Bool
 | .s=>true
 | _=>false
def clsOk (own:List Nat) (ops:Array Oper) (l:List (Oper×Cls)):Bool:=l.all fun x=>!zku own ops x.1||isS x.2
theorem z16 {o:Oper} {env:Env} (h:zku own ops o=true→stPtr o env):stOk own ops o env:=by
 obtain⟨dst,op,t,pos,af,g⟩:=o
 refine⟨?_,fun ha=>?_⟩
 ·cases op<;>try trivial
  case store e a x =>
   cases a<;>try trivial
   rename_i k
   intro hn
   have h1:zku own ops ⟨dst,.store e (.tmp k) x,t,pos,af,g⟩=true:=by unfold zku; simp only[hn,Bool.true_or]
   exact h h1
 ·have h1:zku own ops ⟨dst,op,t,pos,af,g⟩=true:=by unfold zku; rw[ha,Bool.or_true]
  have h2:=h h1
  cases op<;>first | exact h2 | skip
  case store e a x=>simp[appDst,appArg] at ha

def notOwn (own:List Nat) (o:Oper):Bool:=match o.dst with
 | some d=>!own.contains d
 | none=>true

def walkD (P:Program) (N:Nat) (own:List Nat) (ops:Array Oper):List (Oper×Cls)→(Env→za→Prop)→Env→za→Prop
 | [],K,env,H=>K env H
 | (o,c) :: rest,K,env,H=>dstOk N o.dst∧match guardA ops o env with
  | some true=>(match c with
   | .p=>noMake o=true∧notOwn own o=true∧(match exM P o (ev env) heap0 with
    | some (pre,v,_)=>pre∧walkD P N own ops rest K (putA env o.dst v) H
    | none=>False)
   | .q=>quietOp own o=true∧(match exM P o (ev env) H with
    | some (pre,v,_)=>pre∧walkD P N own ops rest K (putA env o.dst v) H
    | none=>callD P o (walkD P N own ops rest K) env H)
   | .b=>quietOp own o=true∧(match exM P o (ev env) (boxH H) with
    | some (pre,v,_)=>pre∧walkD P N own ops rest K (putA env o.dst v) H
    | none=>False)
   | .o=>quietOp own o=true∧(match exM P o (ev env) (hidH own ops H) with
    | some (pre,v,_)=>pre∧walkD P N own ops rest K (putA env o.dst v) H
    | none=>callO P own ops o (walkD P N own ops rest K) env H)
   | .w=>(match exAll P own o (ev env) H with
    | some (pre,v,H')=>pre∧walkD P N own ops rest K (putA env o.dst v) H'
    | none=>False)
   | .s=>stPtr o env∧(match exAll P own o (ev env) H with
    | some (pre,v,H')=>pre∧walkD P N own ops rest K (putA env o.dst v) H'
    | none=>False)
   | .f=>quietOp own o=true∧callFD P own ops o (walkD P N own ops rest K) env H)
  | some false=>walkD P N own ops rest K (putA env o.dst (.tup [])) H
  | none=>False

theorem zfn:∀ (l:List (Oper×Cls)) (env:Env) (H:za),clsOk own ops l=true→walkD P N own ops l K env H→walkC P N own ops l K env H
 | [],env,H,_,h=>h
 | (o,c) :: rest,env,H,hcl,h=>by
  obtain⟨hd,h⟩:=h
  refine⟨hd,?_⟩
  have hcl':clsOk own ops rest=true:=by unfold clsOk at hcl ⊢; rw[List.all_cons,Bool.and_eq_true] at hcl; exact hcl.2
  have hc1:isS c=false→stOk own ops o env:=fun hc=>z16 fun hn=>by
   unfold clsOk at hcl
   rw[List.all_cons,Bool.and_eq_true] at hcl
   have:=hcl.1
   simp only[hn,hc] at this
   cases this
  split at h
  ·rename_i hg
   cases c with
   | p =>
    simp only at h
    obtain⟨h1,h2,h⟩:=h
    split at h
    ·rename_i pre v H' hx
     exact⟨v,H,.inr ⟨hg,hc1 rfl,pre,zbab h1 hx,h.1,rfl,h2⟩,rfl,zfn rest _ H hcl' h.2⟩
    ·exact h.elim
   | q =>
    simp only at h
    obtain⟨h1,h⟩:=h
    have hno:notOwn own o=true:=by unfold quietOp at h1; rw[Bool.and_eq_true] at h1; exact h1.1
    have hall:exAll P own o (ev env) H=exM P o (ev env) H:=zgc hno
    split at h
    ·rename_i pre v H' hx
     have:H'=H:=zj8 h1 (hall.trans hx)
     subst this
     exact⟨v,_,.inr ⟨hg,hc1 rfl,h1,rfl,.inl ⟨pre,hx,h.1⟩⟩,rfl,zfn rest _ _ hcl' h.2⟩
    ·rename_i hx
     obtain⟨x,hc,hw⟩:=h
     exact⟨.p x,H,.inr ⟨hg,hc1 rfl,h1,rfl,.inr ⟨x,rfl,hc,hall.trans hx⟩⟩,rfl,zfn rest _ H hcl' hw⟩
   | b =>
    simp only at h
    obtain⟨h1,h⟩:=h
    have hno:notOwn own o=true:=by unfold quietOp at h1; rw[Bool.and_eq_true] at h1; exact h1.1
    split at h
    ·rename_i pre v H' hx
     have:H'=boxH H:=zj8 h1 ((zgc (H:=boxH H) hno).trans hx)
     subst this
     exact⟨v,H,.inr ⟨hg,hc1 rfl,h1,rfl,pre,hx,h.1⟩,rfl,zfn rest _ _ hcl' h.2⟩
    ·exact h.elim
   | w =>
    simp only at h
    split at h
    ·rename_i pre v H' hx
     exact⟨v,H',.inr ⟨hg,hc1 rfl,pre,hx,h.1⟩,trivial,zfn rest _ H' hcl' h.2⟩
    ·exact h.elim
   | s =>
    simp only at h
    obtain⟨hp,h⟩:=h
    split at h
    ·rename_i pre v H' hx
     exact⟨v,H',.inr ⟨hg,z16 fun _=>hp,pre,hx,h.1⟩,trivial,zfn rest _ H' hcl' h.2⟩
    ·exact h.elim
   | f =>
    simp only at h
    obtain⟨h1,v,H',hc,hw⟩:=h
    exact⟨v,H',.inr ⟨hg,hc1 rfl,h1,hc⟩,trivial,zfn rest _ H' hcl' hw⟩
   | o =>
    simp only at h
    obtain⟨h1,h⟩:=h
    have hno:notOwn own o=true:=by unfold quietOp at h1; rw[Bool.and_eq_true] at h1; exact h1.1
    have hall:exAll P own o (ev env) (hidH own ops H)=exM P o (ev env) (hidH own ops H):=zgc hno
    split at h
    ·rename_i pre v H' hx
     have:H'=hidH own ops H:=zj8 h1 (hall.trans hx)
     subst this
     exact⟨v,H,.inr ⟨hg,hc1 rfl,h1,rfl,.inl ⟨pre,hx,h.1⟩⟩,rfl,zfn rest _ _ hcl' h.2⟩
    ·rename_i hx
     obtain⟨x,hc,hw⟩:=h
     exact⟨.p x,H,.inr ⟨hg,hc1 rfl,h1,rfl,.inr ⟨x,rfl,hc,hall.trans hx⟩⟩,rfl,zfn rest _ H hcl' hw⟩
  ·rename_i hg
   exact⟨.tup [],H,.inl ⟨hg,rfl,rfl⟩,by cases c<;>trivial,zfn rest _ H hcl' h⟩
  ·exact h.elim

def dstsOk (N:Nat) (ops:Array Oper):Bool:=ops.toList.all fun o=>match o.dst with
 | some d=>decide (d<N)
 | none=>true

theorem zsr (h:dstsOk N ops=true):∀ (i:Nat) o,ops[i]? = some o→dstOk N o.dst:=fun i o ho=>by
 have:=List.all_eq_true.1 h o (by
  have:=Array.mem_of_getElem? ho
  simpa using this)
 cases hd:o.dst with
 | none=>trivial
 | some d =>
  rw[hd] at this
  show d<N
  exact of_decide_eq_true this

def textL (cs:List Cls):List (Nat×Cls):=(List.range cs.length).zip cs
def drawText (N:Nat) (own:List Nat) (ops:Array Oper) (m:List Nat) (cs:List Cls):Bool:=drawOk own ops m (textL cs)&&dstsOk N ops&&cs.length == ops.size&&clsOk own ops (ops.toList.zip cs)

theorem ztx {l:List Oper} {cs:List Cls} (h:cs.length=l.length):((List.range cs.length).zip cs).filterMap (fun x=>l.toArray[x.1]?)=l:=by
 have:((List.range cs.length).zip cs).filterMap (fun x=>l.toArray[x.1]?)=(((List.range cs.length).zip cs).map (·.1)).filterMap (fun i=>l.toArray[i]?):=by rw[List.filterMap_map]; rfl
 rw[this,List.map_fst_zip (by simp),h]
 apply List.ext_getElem?
 intro j
 have hf:(List.range l.length).filterMap (fun i=>l.toArray[i]?)=l:=by
  have e:∀k,k≤l.length→(List.range k).filterMap (fun i=>l.toArray[i]?)=l.take k:=by
   intro k
   induction k with
   | zero=>intro _; simp
   | succ k ih =>
    intro hk
    rw[List.range_succ,List.filterMap_append,ih (by omega),List.take_add_one]
    congr 1
    have:l[k]? = some (l[k]'(by omega)):=by simp
    simp[this]
  rw[e l.length (Nat.le_refl _),List.take_length]
 rw[hf]

theorem z84 {l:List Oper} (m:List Nat) (cs:List Cls) (hok:drawText N own l.toArray m cs=true) (hw:walkD P N own l.toArray (l.zip cs) K env H):drawW P N own l.toArray K env H:=by
 unfold drawText at hok
 simp only[Bool.and_eq_true,beq_iff_eq] at hok
 obtain⟨⟨⟨h1,h2⟩,h3⟩,h4⟩:=hok
 have h3:cs.length=l.length:=by simpa using h3
 refine zwu m (textL cs) (l.zip cs) h1 ?_ ?_ (zsr h2) (zfn _ _ _ (by simpa using h4) hw)
 ·rw[List.map_fst_zip (by omega)]
  exact (ztx h3).symm
 ·rw[List.map_snd_zip (by omega)]
  unfold textL
  rw[List.map_snd_zip (by simp)]

theorem z6x {l : List Oper} (m : List Nat) (pc : List (Nat × Cls)) (hok : (drawOk own l.toArray m pc && dstsOk N l.toArray) = true) (os : List (Oper × Cls)) (hcl : clsOk own l.toArray os = true) (h1 : os.map (·.1) = pc.filterMap (fun x => l.toArray[x.1]?)) (h2 : os.map (·.2) = pc.map (·.2))
  (hw:walkD P N own l.toArray os K env H):drawW P N own l.toArray K env H:=by
 rw[Bool.and_eq_true] at hok
 exact zwu m pc os hok.1 h1 h2 (zsr hok.2) (zfn _ _ _ hcl hw)

def walkDE (P : Program) (N : Nat) (own : List Nat) (ops : Array Oper) (c : Cls) (o : Oper) (rest : List (Oper × Cls)) (K : Env → za → Prop) (env : Env) (H : za) : Prop := match c with
   | .p=>noMake o=true∧notOwn own o=true∧(match exM P o (ev env) heap0 with
    | some (pre,v,_)=>pre∧walkD P N own ops rest K (putA env o.dst v) H
    | none=>False)
   | .q=>quietOp own o=true∧(match exM P o (ev env) H with
    | some (pre,v,_)=>pre∧walkD P N own ops rest K (putA env o.dst v) H
    | none=>callD P o (walkD P N own ops rest K) env H)
   | .b=>quietOp own o=true∧(match exM P o (ev env) (boxH H) with
    | some (pre,v,_)=>pre∧walkD P N own ops rest K (putA env o.dst v) H
    | none=>False)
   | .o=>quietOp own o=true∧(match exM P o (ev env) (hidH own ops H) with
    | some (pre,v,_)=>pre∧walkD P N own ops rest K (putA env o.dst v) H
    | none=>callO P own ops o (walkD P N own ops rest K) env H)
   | .w=>(match exAll P own o (ev env) H with
    | some (pre,v,H')=>pre∧walkD P N own ops rest K (putA env o.dst v) H'
    | none=>False)
   | .s=>stPtr o env∧(match exAll P own o (ev env) H with
    | some (pre,v,H')=>pre∧walkD P N own ops rest K (putA env o.dst v) H'
    | none=>False)
   | .f=>quietOp own o=true∧callFD P own ops o (walkD P N own ops rest K) env H
def walkDO (P:Program) (N:Nat) (own:List Nat) (ops:Array Oper) (r:Option (Prop×AV×za)) (o:Oper) (rest:List (Oper×Cls)) (K:Env→za→Prop) (env:Env) (H:za):Prop:=match r with
 | some (pre,v,_)=>pre∧walkD P N own ops rest K (putA env o.dst v) H
 | none=>callO P own ops o (walkD P N own ops rest K) env H
def walkDG (P : Program) (N : Nat) (own : List Nat) (ops : Array Oper) (g : Option Bool) (c : Cls) (o : Oper) (rest : List (Oper × Cls)) (K : Env → za → Prop) (env : Env) (H : za) : Prop := match g with
  | some true=>walkDE P N own ops c o rest K env H
  | some false=>walkD P N own ops rest K (putA env o.dst (.tup [])) H
  | none=>False
def walkD1 (P:Program) (N:Nat) (own:List Nat) (ops:Array Oper) (r:Option (Prop×AV×za)) (o:Oper) (rest:List (Oper×Cls)) (K:Env→za→Prop) (env:Env) (H:za):Prop:=match r with
 | some (pre,v,_)=>pre∧walkD P N own ops rest K (putA env o.dst v) H
 | none=>callD P o (walkD P N own ops rest K) env H
def walkD2 (P:Program) (N:Nat) (own:List Nat) (ops:Array Oper) (r:Option (Prop×AV×za)) (o:Oper) (rest:List (Oper×Cls)) (K:Env→za→Prop) (env:Env):Prop:=match r with
 | some (pre,v,H')=>pre∧walkD P N own ops rest K (putA env o.dst v) H'
 | none=>False
def walkD0 (P:Program) (N:Nat) (own:List Nat) (ops:Array Oper) (r:Option (Prop×AV×za)) (o:Oper) (rest:List (Oper×Cls)) (K:Env→za→Prop) (env:Env) (H:za):Prop:=match r with
 | some (pre,v,_)=>pre∧walkD P N own ops rest K (putA env o.dst v) H
 | none=>False

section
variable (o:Oper) (rest:List (Oper×Cls))
theorem z9m:walkD P N own ops [] K env H=K env H:=rfl
theorem z44 (c:Cls):walkD P N own ops ((o,c) :: rest) K env H=(dstOk N o.dst∧walkDG P N own ops (guardA ops o env) c o rest K env H):=by
 rw[walkD.eq_def]
 unfold walkDG walkDE
 rfl
theorem z0o (c:Cls):walkDG P N own ops (some true) c o rest K env H=walkDE P N own ops c o rest K env H:=rfl
theorem zy4 (c:Cls):walkDG P N own ops (some false) c o rest K env H=walkD P N own ops rest K (putA env o.dst (.tup [])) H:=rfl
theorem zbdm:walkDE P N own ops .p o rest K env H=(noMake o=true∧notOwn own o=true∧walkD0 P N own ops (exM P o (ev env) heap0) o rest K env H):=rfl
theorem zbck:walkDE P N own ops .q o rest K env H=(quietOp own o=true∧walkD1 P N own ops (exM P o (ev env) H) o rest K env H):=rfl
theorem zbc5:walkDE P N own ops .b o rest K env H=(quietOp own o=true∧walkD0 P N own ops (exM P o (ev env) (boxH H)) o rest K env H):=rfl
theorem zbd6:walkDE P N own ops .w o rest K env H=walkD2 P N own ops (exAll P own o (ev env) H) o rest K env:=rfl
theorem zbeu:walkDE P N own ops .o o rest K env H=(quietOp own o=true∧walkDO P N own ops (exM P o (ev env) (hidH own ops H)) o rest K env H):=rfl
theorem zbbd:walkDE P N own ops .s o rest K env H=(stPtr o env∧walkD2 P N own ops (exAll P own o (ev env) H) o rest K env):=rfl
theorem zba0:walkDE P N own ops .f o rest K env H=(quietOp own o=true∧callFD P own ops o (walkD P N own ops rest K) env H):=rfl
theorem z0h (pre:Prop) (v:AV) (H':za):walkDO P N own ops (some (pre,v,H')) o rest K env H=(pre∧walkD P N own ops rest K (putA env o.dst v) H):=rfl
theorem z0p (pre:Prop) (v:AV) (H':za):walkD0 P N own ops (some (pre,v,H')) o rest K env H=(pre∧walkD P N own ops rest K (putA env o.dst v) H):=rfl
theorem z1y (pre:Prop) (v:AV) (H':za):walkD1 P N own ops (some (pre,v,H')) o rest K env H=(pre∧walkD P N own ops rest K (putA env o.dst v) H):=rfl
theorem z0w:walkD1 P N own ops none o rest K env H=callD P o (walkD P N own ops rest K) env H:=rfl
theorem z0m (pre:Prop) (v:AV) (H':za):walkD2 P N own ops (some (pre,v,H')) o rest K env=(pre∧walkD P N own ops rest K (putA env o.dst v) H'):=rfl
end

section
variable (d:Option Tmp) (t u:TypeId) (pos:String) (af:Array Edge) (g:Option (Nat×Bool))
def nOwn (own:List Nat):Option Tmp→Bool
 | some d=>!own.contains d
 | none=>true
theorem z65 (k:Nat):nOwn own (some k) = !own.contains k:=rfl
theorem z8x (o:Oper):notOwn own o=nOwn own o.dst:=rfl
theorem z1i (e:TypeId) (k:Nat) (x:Operand):stPtr ⟨d,.store e (.tmp k) x,t,pos,af,g⟩ env = ∃off,env k = .ptr k off:=rfl
theorem zbfv (own:List Nat) (ops:Array Oper) (H:za) (i:Nat):hidH own ops H i=if newsB own ops i=true then none else H i:=rfl
def bxC:Option zcb→Option zcb
 | some (.box cs)=>some (.box cs)
 | _=>none
theorem zbfo (H:za) (i:Nat):boxH H i=bxC (H i):=by
 unfold boxH bxC
 cases H i with
 | none=>rfl
 | some c=>cases c<;>rfl
theorem zbhg (cs:List AV):bxC (some (.box cs))=some (.box cs):=rfl
theorem z1q (x:Operand):noMake ⟨d,.move x,t,pos,af,g⟩=true:=rfl
theorem z0v (x:Operand):noMake ⟨d,.load u x,t,pos,af,g⟩=true:=rfl
theorem ztj (x:Operand) (k:Nat):noMake ⟨d,.fieldAddr u x k,t,pos,af,g⟩=true:=rfl
theorem zto (x y:Operand):noMake ⟨d,.indexAddr u x y,t,pos,af,g⟩=true:=rfl
theorem zy5 (x:Array (Nat×Operand)):noMake ⟨d,.build u x,t,pos,af,g⟩=true:=rfl
theorem zsj (n:Nat) (x:Array (Nat×Operand)):noMake ⟨d,.buildSlice u n x,t,pos,af,g⟩=true:=rfl
theorem z03 (c:Call):noMake ⟨d,.call c,t,pos,af,g⟩=true:=rfl
theorem z5f (x:Operand):quietOp own ⟨d,.move x,t,pos,af,g⟩=nOwn own d:=by cases d<;>simp only[quietOp,nOwn,Bool.and_true]
theorem zzc (x:Operand):quietOp own ⟨d,.assign x,t,pos,af,g⟩=nOwn own d:=by cases d<;>simp only[quietOp,nOwn,Bool.and_true]
theorem z48 (x y z:Operand):quietOp own ⟨d,.pick x y z,t,pos,af,g⟩=nOwn own d:=by cases d<;>simp only[quietOp,nOwn,Bool.and_true]
theorem z47 (x:Operand):quietOp own ⟨d,.load u x,t,pos,af,g⟩=nOwn own d:=by cases d<;>simp only[quietOp,nOwn,Bool.and_true]
theorem zum (x:Operand) (k:Nat):quietOp own ⟨d,.fieldAddr u x k,t,pos,af,g⟩=nOwn own d:=by cases d<;>simp only[quietOp,nOwn,Bool.and_true]
theorem zt9 (x y:Operand):quietOp own ⟨d,.indexAddr u x y,t,pos,af,g⟩=nOwn own d:=by cases d<;>simp only[quietOp,nOwn,Bool.and_true]
theorem zxl (x:Operand) (k:Nat):quietOp own ⟨d,.extract x k,t,pos,af,g⟩=nOwn own d:=by cases d<;>simp only[quietOp,nOwn,Bool.and_true]
theorem z14 (op:BinOp) (x y:Operand) (v:TypeId):quietOp own ⟨d,.binOp op u x y v,t,pos,af,g⟩=nOwn own d:=by cases d<;>simp only[quietOp,nOwn,Bool.and_true]
theorem z4g (op:UnOp) (x:Operand):quietOp own ⟨d,.unOp op u x,t,pos,af,g⟩=nOwn own d:=by cases d<;>simp only[quietOp,nOwn,Bool.and_true]
theorem z0s (x:Array (Nat×Operand)):quietOp own ⟨d,.build u x,t,pos,af,g⟩=nOwn own d:=by cases d<;>simp only[quietOp,nOwn,Bool.and_true]
theorem z1u (x:Operand) (l h m:Option Operand):quietOp own ⟨d,.slice u x l h m,t,pos,af,g⟩=nOwn own d:=by cases d<;>simp only[quietOp,nOwn,Bool.and_true]
theorem z0b (f:Operand) (xs:Array Operand) (ts:Array TypeId):quietOp own ⟨d,.call ⟨.value f,xs,ts⟩,t,pos,af,g⟩=nOwn own d:=by cases d<;>simp only[quietOp,nOwn,Bool.and_true]
theorem zbap (xs:Array Operand) (ts:Array TypeId):quietOp own ⟨d,.call ⟨.builtin .len,xs,ts⟩,t,pos,af,g⟩=nOwn own d:=by cases d<;>simp only[quietOp,nOwn,Bool.and_true]
end

def callPs (o:Oper) (ρ:Operand→AV) (H:za):Option (FuncId×List PV×Bool):=match callArgs o ρ with
 | some (k,als)=>(match lendL (lend1 H) als with
  | some (ps,b)=>some (k,ps,b)
  | none=>none)
 | none=>none
def callP3 (k:FuncId) (r:Option (List PV×Bool)):Option (FuncId×List PV×Bool):=match r with
 | some (ps,b)=>some (k,ps,b)
 | none=>none
def callP2 (f:AV) (als:List AV) (H:za):Option (FuncId×List PV×Bool):=match f with
 | .p (.clo (.func k) fs cs)=>callP3 k (lendL (lend1 H) (fs.map AV.p++als++cs.map AV.p))
 | .clo (.func k) fs cs=>callP3 k (lendL (lend1 H) (fs++als++cs))
 | _=>none
theorem zzh (d : Option Tmp) (t : TypeId) (pos : String) (af : Array Edge) (g : Option (Nat × Bool)) (f : Operand) (xs : Array Operand) (ts : Array TypeId) (ρ : Operand → AV) :
  callPs ⟨d,.call ⟨.value f,xs,ts⟩,t,pos,af,g⟩ ρ H=callP2 (ρ f) (xs.toList.map ρ) H:=by
 unfold callPs callArgs callP2
 simp only[]
 cases ρ f with
 | p x=>cases x with
  | clo fn fs cs=>cases fn<;>rfl
  | _=>rfl
 | clo fn fs cs=>cases fn<;>rfl
 | _=>rfl
theorem zbd4 (k:FuncId) (fs cs:List PV) (als:List AV):callP2 (.p (.clo (.func k) fs cs)) als H=callP3 k (lendL (lend1 H) (fs.map AV.p++als++cs.map AV.p)):=rfl
theorem z3d (k:FuncId) (fs cs als:List AV):callP2 (.clo (.func k) fs cs) als H=callP3 k (lendL (lend1 H) (fs++als++cs)):=rfl
theorem zz9 (k:FuncId) (ps:List PV) (b:Bool):callP3 k (some (ps,b))=some (k,ps,b):=rfl

theorem zyu {o:Oper} {ρ:Operand→AV} {k:FuncId} {ps:List PV} {b:Bool} {x:PV} (c:zh P k ps fun r=>r=x) (he:callPs o ρ H=some (k,ps,b)) (hb:b=true→x.scalar=true):callS P o ρ H x:=by
 unfold callPs at he
 cases ha:callArgs o ρ with
 | none=>rw[ha] at he; cases he
 | some r =>
  obtain⟨k',als⟩:=r
  rw[ha] at he
  simp only[] at he
  cases hl:lendL (lend1 H) als with
  | none=>rw[hl] at he; cases he
  | some q =>
   obtain⟨ps',b'⟩:=q
   rw[hl] at he
   simp only[Option.some.injEq,Prod.mk.injEq] at he
   obtain⟨rfl,rfl,rfl⟩:=he
   exact⟨_,als,_,_,ha,hl,c,hb⟩

theorem zba {o : Oper} {W : Env → za → Prop} {k : FuncId} {ps : List PV} {b : Bool} {x : PV} (c : zh P k ps fun r => r = x) (he : callPs o (ev env) H = some (k, ps, b)) (hb : b = true → x.scalar = true)
  (hW:W (putA env o.dst (.p x)) H):callK P o W env H:=.inl (.inl ⟨[],zt8 (zyu c he hb) hW⟩)
theorem zio {o : Oper} {W : Env → za → Prop} {k : FuncId} {ps : List PV} {b : Bool} {x : PV} (c : zh P k ps fun r => r = x) (he : callPs o (ev env) H = some (k, ps, b)) (hb : b = true → x.scalar = true)
  (hW:W (putA env o.dst (.p x)) H):callD P o W env H:=⟨x,zyu c he hb,hW⟩
theorem zjn {o : Oper} {W : Env → za → Prop} {k : FuncId} {ps : List PV} {b : Bool} {Q : PV → Prop} (c : zh P k ps Q) (he : callPs o (ev env) H = some (k, ps, b))
  (hW:∀r,Q r→(b=true→r.scalar=true)∧W (putA env o.dst (.p r)) H):callK P o W env H:=by
 unfold callPs at he
 cases ha:callArgs o (ev env) with
 | none=>rw[ha] at he; cases he
 | some r =>
  obtain⟨k',als⟩:=r
  rw[ha] at he
  simp only[] at he
  cases hl:lendL (lend1 H) als with
  | none=>rw[hl] at he; cases he
  | some q =>
   obtain⟨ps',b'⟩:=q
   rw[hl] at he
   simp only[Option.some.injEq,Prod.mk.injEq] at he
   obtain⟨rfl,rfl,rfl⟩:=he
   exact .inl (.inl ⟨[],_,als,_,_,Q,ha,hl,c,hW⟩)
theorem zbdr {o:Oper} {W:Env→za→Prop} {k:FuncId} {ps:List PV} {x:PV} (c:ExtV P k ps x) (he:callArgs o (ev env)=some (k,ps.map AV.p)) (hW:W (putA env o.dst (.p x)) H):callK P o W env H:=.inl (.inr (.inl ⟨k,ps,x,he,c,hW⟩))
theorem scal {b:Bool} {x:PV} (h:x.scalar=true):b=true→x.scalar=true:=fun _=>h
theorem pers {x:PV} : false=true→x.scalar=true:=fun h=>by cases h

def nwH (o:Oper) (k:Nat):Bool:=o.dst == some k&&match o.op with
 | .alloc _=>true
 | .box ..=>true
 | .buildSlice ..=>true
 | .makeSlice ..=>true
 | _=>false
theorem z6i (k:Nat):newsB own (List.toArray []) k=own.contains (2000000+k):=rfl
theorem z3v (o:Oper) (l:List Oper) (k:Nat):newsB own (List.toArray (o :: l)) k=(nwH o k||newsB own (List.toArray l) k):=by
 unfold newsB
 simp only[List.any_cons,Bool.or_assoc]
 try rfl
section
variable (d:Option Tmp) (t u:TypeId) (pos:String) (af:Array Edge) (g:Option (Nat×Bool))
theorem z9w (j k:Nat):nwH ⟨some j,.alloc u,t,pos,af,g⟩ k=(j == k):=by
 unfold nwH
 simp only[Bool.and_true]
 rw[Bool.eq_iff_iff]
 simp
theorem zbed (x:Operand) (k0:Nat):nwH ⟨d,.move x,t,pos,af,g⟩ k0=false:=by unfold nwH; simp only[Bool.and_false]
theorem z3x (x:Operand) (k0:Nat):nwH ⟨d,.assign x,t,pos,af,g⟩ k0=false:=by unfold nwH; simp only[Bool.and_false]
theorem zba3 (x:Operand) (k0:Nat):nwH ⟨d,.load u x,t,pos,af,g⟩ k0=false:=by unfold nwH; simp only[Bool.and_false]
theorem zxj (x:Operand) (k:Nat) (k0:Nat):nwH ⟨d,.fieldAddr u x k,t,pos,af,g⟩ k0=false:=by unfold nwH; simp only[Bool.and_false]
theorem zxo (x y:Operand) (k0:Nat):nwH ⟨d,.indexAddr u x y,t,pos,af,g⟩ k0=false:=by unfold nwH; simp only[Bool.and_false]
theorem z1w (x:Operand) (k:Nat) (k0:Nat):nwH ⟨d,.extract x k,t,pos,af,g⟩ k0=false:=by unfold nwH; simp only[Bool.and_false]
theorem zbaw (x:Array (Nat×Operand)) (k0:Nat):nwH ⟨d,.build u x,t,pos,af,g⟩ k0=false:=by unfold nwH; simp only[Bool.and_false]
theorem zva (n:Nat) (x:Array (Nat×Operand)) (j k:Nat):nwH ⟨some j,.buildSlice u n x,t,pos,af,g⟩ k=(j == k):=by
 unfold nwH
 simp only[Bool.and_true]
 rw[Bool.eq_iff_iff]
 simp
theorem zbbv (c:Call) (k0:Nat):nwH ⟨d,.call c,t,pos,af,g⟩ k0=false:=by unfold nwH; simp only[Bool.and_false]
theorem z66 (x y:Operand) (k0:Nat):nwH ⟨d,.store u x y,t,pos,af,g⟩ k0=false:=by unfold nwH; simp only[Bool.and_false]
end
attribute [go_sem] z6i z3v z9w zbed z3x zba3 zxj zxo z1w zbaw zva zbbv z66 Bool.false_or Bool.or_false Bool.true_or Bool.or_true zbeu zbbd zba0 z0h z1i AV.ptr.injEq zbfv zzh zbd4 z3d zz9 z9m z44 z0o zy4 zbdm zbck zbc5 zbd6 zbfo zbhg z0p z1y z0w z0m z8x z65 List.contains_cons List.contains_nil z1q z0v ztj zto zy5 zsj z03 z5f zzc z48 z47 zum zt9 zxl z14 z4g z0s z1u z0b zbap List.zip_cons_cons List.zip_nil_left

end Go.Abs
namespace Go.Abs
open Go.RowKit

variable {P:Program} {t:TypeId}

theorem zbcy (d:Int):bnd d none=some d:=rfl
theorem zbgc (d:Int) (k:IntKind) (n:Int):bnd d (some (.p (.val (.int k n))))=some n:=rfl
def slS (a b:Option Int) (s:ByteArray):Option (Prop×AV):=match a,b with
 | some l,some h=>some (0≤l∧l≤h∧h≤s.size,.p (.val (.string (s.extract l.toNat h.toNat))))
 | _,_=>none
theorem z4z {s:ByteArray} {lo hi:Option AV} (h:tyStr P t=true):sliceX P t (.p (.val (.string s))) lo hi none=slS (bnd 0 lo) (bnd s.size hi) s:=by
 unfold sliceX slS
 simp only[h]
 cases bnd 0 lo<;>cases bnd s.size hi<;>rfl
theorem zbe6 (l h:Int) (s:ByteArray):slS (some l) (some h) s=some (0≤l∧l≤h∧h≤s.size,.p (.val (.string (s.extract l.toNat h.toNat)))):=rfl
def slL (e:Option TypeId) (f:TypeId→Option Nat) (a b:Option Int) (es:List (List PV)):Option (Prop×AV):=match e,a,b with
 | some e,some l,some h=>(match f e with
  | some sz=>some ((0≤l∧l≤h∧h≤es.length)∧∀x∈es,x.length=sz,.p (.lst ((es.take h.toNat).drop l.toNat)))
  | none=>none)
 | _,_,_=>none
theorem z5w {es:List (List PV)} {lo hi:Option AV} : sliceX P t (.p (.lst es)) lo hi none=slL (slElem P t) (tySize P) (bnd 0 lo) (bnd es.length hi) es:=by
 unfold sliceX slL
 simp only[]
 cases slElem P t<;>cases bnd 0 lo<;>cases bnd es.length hi<;>rfl
theorem zbdz (e : TypeId) (f : TypeId → Option Nat) (l h : Int) (es : List (List PV)) : slL (some e) f (some l) (some h) es = (match f e with
  | some sz=>some ((0≤l∧l≤h∧h≤es.length)∧∀x∈es,x.length=sz,.p (.lst ((es.take h.toNat).drop l.toNat)))
  | none=>none):=rfl
theorem zbbz (i:Nat):heap0 i=none:=rfl
attribute [go_sem] zbbz zbcy zbgc z4z zbe6 z5w zbdz Option.map_none Option.map_some
theorem zbn {N:Nat} {own:List Nat} {K:Env→za→Prop} {env:Env} {H:za} {l:List Oper} (cs:List Cls) (hok:drawText N own l.toArray (masks l.toArray) cs=true) (hw:walkD P N own l.toArray (l.zip cs) K env H):drawW P N own l.toArray K env H :=
 z84 (masks l.toArray) cs hok hw

theorem VR.nil_lst {I:Mem} {v:Value} (h:VR I v (.val (.slice none 0 0))):VR I v (.lst []):=by
 cases h
 exact .lst none 0 0 [] [] 1 rfl (by simp) rfl (by simp) (by simp) (.inl rfl) (fun _=>⟨rfl,rfl⟩) (Nat.le_refl _)
theorem VR.emp_lst {I:Mem} {v:Value} (h:VR I v .emp):VR I v (.lst []):=by
 cases h
 rename_i a
 exact .lst a 0 0 [] [] 1 rfl (by simp) rfl (by simp) (by simp) (.inl rfl) (fun _=>⟨rfl,rfl⟩) (Nat.le_refl _)

def PLe (p' p:PV):Prop:=∀I v,VR I v p'→VR I v p
theorem PLe.refl (p:PV):PLe p p:=fun _ _ h=>h
theorem PLe.nil:PLe (.val (.slice none 0 0)) (.lst []):=fun _ _ h=>h.nil_lst
theorem PLe.emp:PLe .emp (.lst []):=fun _ _ h=>h.emp_lst
def PLes:List PV→List PV→Prop
 | [],[]=>True
 | a :: r,b :: s=>PLe a b∧PLes r s
 | _,_=>False
theorem PLes.vrs {I:Mem} : ∀ {ps' ps:List PV},PLes ps' ps→∀ {vs:List Value},VRs I vs ps'→VRs I vs ps
 | [],[],_,vs,h=>h
 | [],_ :: _,h,_,_=>h.elim
 | _ :: _,[],h,_,_=>h.elim
 | a :: r,b :: s,h,[],hv=>by have:=hv.1; simp at this
 | a :: r,b :: s,h,v :: vs,hv=>by
  have ih:=PLes.vrs (I:=I) h.2 (vs:=vs) ⟨by simpa using hv.1,fun j u c hu hc=>hv.2 (j+1) u c hu hc⟩
  refine⟨by simpa using ih.1,fun j u c hu hc=>?_⟩
  cases j with
  | zero =>
   simp at hu hc
   subst hu hc
   exact h.1 _ _ (hv.2 0 v a rfl rfl)
  | succ j=>exact ih.2 j u c (by simpa using hu) (by simpa using hc)
theorem zh.args {f:FuncId} {ps ps':List PV} {Q:PV→Prop} (h:zh P f ps Q) (hp:PLes ps' ps):zh P f ps' Q :=
 ⟨h.1,fun I w vs hI hv=>h.2 I w vs hI (hp.vrs hv)⟩
end Go.Abs
namespace Go.Abs
open Go.RowKit

variable {P:Program} {own:List Nat} {env:Env} {H:za}

def permL (l:List Oper):List (Nat×Cls)→List (Oper×Cls)
 | []=>[]
 | (i,c) :: r=>(match l[i]? with
  | some o=>(o,c) :: permL l r
  | none=>permL l r)
theorem z8h (l:List Oper):permL l []=[]:=rfl
theorem zpn (l : List Oper) (i : Nat) (c : Cls) (r : List (Nat × Cls)) : permL l ((i, c) :: r) = (match l[i]? with
  | some o=>(o,c) :: permL l r
  | none=>permL l r):=rfl
theorem zrn (l:List Oper):∀pc:List (Nat×Cls),(permL l pc).map (·.1)=pc.filterMap (fun x=>l.toArray[x.1]?)
 | []=>rfl
 | (i,c) :: r=>by
  rw[zpn,List.filterMap_cons]
  cases h:l[i]? with
  | none=>simp[h,zrn l r]
  | some o=>simp[h,zrn l r]
theorem zwg (l:List Oper):∀pc:List (Nat×Cls),(pc.all fun x=>decide (x.1<l.length))=true→(permL l pc).map (·.2)=pc.map (·.2)
 | [],_=>rfl
 | (i,c) :: r,h=>by
  simp only[List.all_cons,Bool.and_eq_true,decide_eq_true_eq] at h
  rw[zpn,List.getElem?_eq_getElem h.1]
  simp[zwg l r h.2]
def permOk (N:Nat) (own:List Nat) (l:List Oper) (pc:List (Nat×Cls)):Bool:=drawOk own l.toArray (masks l.toArray) pc&&dstsOk N l.toArray&&clsOk own l.toArray (permL l pc)&&pc.all fun x=>decide (x.1<l.length)
theorem zfg {N:Nat} {K:Env→za→Prop} {l:List Oper} (pc:List (Nat×Cls)) (hok:permOk N own l pc=true) (hw:walkD P N own l.toArray (permL l pc) K env H):drawW P N own l.toArray K env H:=by
 unfold permOk at hok
 rw[Bool.and_eq_true,Bool.and_eq_true] at hok
 exact z6x (masks l.toArray) pc hok.1.1 (permL l pc) hok.1.2 (zrn l pc) (zwg l pc hok.2) hw

def nG (c:Option zcb) (r:Option (Prop×AV×za)):Option (Prop×AV×za):=match c with
 | some _=>none
 | none=>r
theorem zbcu (r:Prop×AV×za) (b:Bool) (y:Option (Prop×AV×za)):orE (some r) b y=some r:=rfl
theorem zbiv (y:Option (Prop×AV×za)):orE none true y=y:=rfl
theorem z8j (t:TypeId) (n:Nat) (ps:Array (Nat×Operand)):isApp (.buildSlice t n ps)=false:=rfl
theorem z4b (t:TypeId) (a b:Operand):isApp (.makeSlice t a b)=false:=rfl
theorem zbag (xs:Array Operand) (ts:Array TypeId):isApp (.call ⟨.builtin .append,xs,ts⟩)=true:=rfl
theorem z31 (f:Operand) (xs:Array Operand) (ts:Array TypeId):isApp (.call ⟨.value f,xs,ts⟩)=false:=rfl
theorem zbg2 (r:Option (Prop×AV×za)):nG none r=r:=rfl
def nLit (P:Program) (r:Option (TypeId×List (List PV))) (d:Nat) (H:za):Option (Prop×AV×za):=match r with
 | some (e,es)=>(match tySize P e with
  | some sz=>some (True,.row d 0,hset H d (.row 0 e sz es))
  | none=>none)
 | none=>none
theorem z9v (e : TypeId) (es : List (List PV)) (d : Nat) : nLit P (some (e, es)) d H = (match tySize P e with
  | some sz=>some (True,.row d 0,hset H d (.row 0 e sz es))
  | none=>none):=rfl
def nMake (P:Program) (e:Option TypeId) (a b:AV) (d:Nat) (H:za):Option (Prop×AV×za):=match a,b,e with
 | .p (.val (.int _ n)), .p (.val (.int _ m)), some e => (match tySize P e, tyZero P e, tyBytes P e with
    | some sz, some zs, some by' => if zs.length = sz ∧ 0 < sz ∧ 0 < by' ∧ zs.all (·.oneCell') = true then
      some ((0≤n∧m=n)∧n * by'≤140737488355328,.row d 0,hset H d (.row 0 e sz (List.replicate n.toNat (zs.map PV.val)))) else none
    | _,_,_=>none)
 | _,_,_=>none
theorem z3n (k k' : IntKind) (n m : Int) (e : TypeId) (d : Nat) : nMake P (some e) (.p (.val (.int k n))) (.p (.val (.int k' m))) d H = (match tySize P e, tyZero P e, tyBytes P e with
    | some sz, some zs, some by' => if zs.length = sz ∧ 0 < sz ∧ 0 < by' ∧ zs.all (·.oneCell') = true then
      some ((0≤n∧m=n)∧n * by'≤140737488355328,.row d 0,hset H d (.row 0 e sz (List.replicate n.toNat (zs.map PV.val)))) else none
    | _,_,_=>none):=rfl
def nApp (a:AV) (ty:Option (TypeId×Nat×Nat)) (b:Option (List (List PV))) (d:Nat) (H:za):Option (Prop×AV×za):=match a,ty,b with
 | .p (.val (.slice none 0 0)),some (e,sz,by'),some es=>some (es.length * by'≤140737488355328∧∀x∈es,x.length=sz,.row d 0,hset H d (.row 0 e sz es))
 | _,_,_=>none
theorem zbe3 (i v:Nat) (ty:Option (TypeId×Nat×Nat)) (b:Option (List (List PV))) (d:Nat):nApp (.row i v) ty b d H=none:=rfl
theorem z9b (e:TypeId) (sz by':Nat) (es:List (List PV)) (d:Nat):nApp (.p (.val (.slice none 0 0))) (some (e,sz,by')) (some es) d H=some (es.length * by'≤140737488355328∧∀x∈es,x.length=sz,.row d 0,hset H d (.row 0 e sz es)):=rfl
section
variable (dd:Option Tmp) (ty:TypeId) (pos:String) (af:Array Edge) (g:Option (Nat×Bool)) (ρ:Operand→AV)
theorem zbgv (t:TypeId) (n:Nat) (ps:Array (Nat×Operand)) (d:Nat):exN P ⟨dd,.buildSlice t n ps,ty,pos,af,g⟩ ρ H d=nG (H d) (nLit P (bsliceE P t n (ps.toList.map fun x=>(x.1,ρ x.2))) d H):=by
 unfold exN nG nLit
 cases H d with
 | some c=>rfl
 | none=>rfl
theorem zbbo (t:TypeId) (l c:Operand) (d:Nat):exN P ⟨dd,.makeSlice t l c,ty,pos,af,g⟩ ρ H d=nG (H d) (nMake P (slElem P t) (ρ l) (ρ c) d H):=by
 unfold exN nG nMake
 cases H d with
 | some c=>rfl
 | none=>rfl
theorem zbf6 (t1 t2:TypeId) (a b:Operand) (d:Nat):exN P ⟨dd,.call ⟨.builtin .append,#[a,b],#[t1,t2]⟩,ty,pos,af,g⟩ ρ H d=nG (H d) (nApp (ρ a) (appTypes P t1 t2) (srcOf H (ρ b)) d H):=by
 unfold exN nG nApp
 cases H d with
 | some c=>rfl
 | none=>rfl
end

def retFA (H:za) (Q:RV→Prop) (a:Option AV):Prop:=match a with
 | some a => (match rvOf H a with
   | some (r,ids)=>ids.Nodup∧∃r',RLe r r'∧Q r'
   | none=>False)
 | none=>False
theorem zbaz (rs:List ResultVar) (Q:RV→Prop):retF P rs Q .ret env H=retFA H Q (resAV P env H rs):=rfl
def retFB (Q : RV → Prop) (x : Option (RV × List Nat)) : Prop := match x with
   | some (r,ids)=>ids.Nodup∧∃r',RLe r r'∧Q r'
   | none=>False
theorem z39 (a:AV) (Q:RV→Prop):retFA H Q (some a)=retFB Q (rvOf H a):=rfl
theorem z4l (Q:RV→Prop) (r:RV) (ids:List Nat):retFB Q (some (r,ids))=(ids.Nodup∧∃r',RLe r r'∧Q r'):=rfl
theorem zbih (x:PV):rvOf H (.p x)=some (.p x,[]):=by simp only[rvOf]
def rvR (c : Option zcb) (id ver : Nat) : Option (RV × List Nat) := match c with
  | some (.row v e sz es)=>if v=ver then some (.row e sz es,[id]) else none
  | some (.shut v es)=>if v=ver then some (.p (.lst es),[]) else none
  | _=>none
theorem zbbl (id ver:Nat):rvOf H (.row id ver)=rvR (H id) id ver:=by
 unfold rvR
 simp only[rvOf]
 try rfl
theorem zbfi (v:Nat) (e:TypeId) (sz:Nat) (es:List (List PV)) (id ver:Nat):rvR (some (.row v e sz es)) id ver=if v=ver then some (.row e sz es,[id]) else none:=rfl
theorem zba9 (cs : List AV) : rvOf H (.agg cs) = (match rvOfL H cs with
  | some (rs,ids)=>some (.agg rs,ids)
  | none=>none):=by simp only[rvOf]; try rfl
theorem zbdk (cs : List AV) : rvOf H (.tup cs) = (match rvOfL H cs with
  | some (rs,ids)=>some (.tup rs,ids)
  | none=>none):=by simp only[rvOf]; try rfl
theorem z9d:rvOfL H []=some ([],[]):=by simp only[rvOfL]
theorem z41 (a : AV) (r : List AV) : rvOfL H (a :: r) = (match rvOf H a, rvOfL H r with
  | some (x,i),some (xs,j)=>some (x :: xs,i++j)
  | _,_=>none):=by simp only[rvOfL]; try rfl
theorem zbc9 (k:Nat) (x:PV):placeA k (.p x)=(.p x,k):=by simp only[placeA]
theorem z3c (k:Nat) (e:TypeId) (sz:Nat) (es:List (List PV)):placeA k (.row e sz es)=(.row k 0,k+1):=by simp only[placeA]
theorem z5k (k:Nat) (rs:List RV):placeA k (.agg rs)=(mkAgg (placeL k rs).1,(placeL k rs).2):=by simp only[placeA]
theorem z5b (k:Nat) (rs:List RV):placeA k (.tup rs)=(.tup (placeL k rs).1,(placeL k rs).2):=by simp only[placeA]
theorem z20 (k:Nat):placeL k []=([],k):=by simp only[placeL]
theorem z1k (k:Nat) (r:RV) (rs:List RV):placeL k (r :: rs)=((placeA k r).1 :: (placeL (placeA k r).2 rs).1,(placeL (placeA k r).2 rs).2):=by simp only[placeL]
theorem zbeh (k:Nat) (x:PV):placeH k H (.p x)=H:=by simp only[placeH]
theorem z5t (k:Nat) (e:TypeId) (sz:Nat) (es:List (List PV)):placeH k H (.row e sz es)=hset H k (.row 0 e sz es):=by simp only[placeH]
theorem z3b (k:Nat) (rs:List RV):placeH k H (.agg rs)=placeHL k H rs:=by simp only[placeH]
theorem z43 (k:Nat) (rs:List RV):placeH k H (.tup rs)=placeHL k H rs:=by simp only[placeH]
theorem z09 (k:Nat):placeHL k H []=H:=by simp only[placeHL]
theorem zyp (k:Nat) (r:RV) (rs:List RV):placeHL k H (r :: rs)=placeHL (placeA k r).2 (placeH k H r) rs:=by simp only[placeHL]

def freeN (H:za) (id:Nat):Nat→Prop
 | 0=>True
 | n+1=>H id=none∧freeN H (id+1) n
theorem z81 (id:Nat):freeN H id 1=(H id=none∧True):=rfl
theorem z8p (id:Nat):freeN H id 2=(H id=none∧H (id+1)=none∧True):=rfl
theorem z50 (id:Nat):freeN H id 4=(H id=none∧H (id+1)=none∧H (id+1+1)=none∧H (id+1+1+1)=none∧True):=rfl
theorem zpx:∀ (n id:Nat),freeN H id n→∀i,id≤i→i<id+n→H i=none
 | 0,id,_,i,h1,h2=>by omega
 | n+1,id,h,i,h1,h2=>by
  by_cases e:i=id
  ·rw[e]; exact h.1
  ·exact zpx n (id+1) h.2 i (by omega) (by omega)

section
variable {o:Oper} {W:Env→za→Prop} {k:FuncId} {ps:List PV} {b:Bool}
theorem zyk (he:callPs o (ev env) H=some (k,ps,b)):∃als,callArgs o (ev env)=some (k,als)∧lendL (lend1 H) als=some (ps,b):=by
 unfold callPs at he
 cases ha:callArgs o (ev env) with
 | none=>rw[ha] at he; cases he
 | some r =>
  obtain⟨k',als⟩:=r
  rw[ha] at he
  simp only[] at he
  cases hl:lendL (lend1 H) als with
  | none=>rw[hl] at he; cases he
  | some q =>
   obtain⟨ps',b'⟩:=q
   rw[hl] at he
   simp only[Option.some.injEq,Prod.mk.injEq] at he
   obtain⟨rfl,rfl,rfl⟩:=he
   exact⟨als,rfl,hl⟩
theorem z87 (ids : List Nat) (id : Nat) {Q : RV → Prop} (c : zbt P k ps Q) (he : callPs o (ev env) (sealIds ids H) = some (k, ps, b))
  (hW:∀r,Q r→(b=true→r.flat=true)∧freeN (sealIds ids H) id ((placeA id r).2 - id)∧W (putA env o.dst (placeA id r).1) (placeH id (sealIds ids H) r)):callK P o W env H:=by
 obtain⟨als,h1,h2⟩:=zyk he
 refine .inl (.inr (.inr ⟨ids,.inl ⟨k,als,ps,b,Q,id,h1,h2,c,fun r hr=>?_⟩⟩))
 obtain⟨q1,q2,q3⟩:=hW r hr
 exact⟨q1,fun i hi1 hi2=>zpx _ id q2 i hi1 (by omega),q3⟩
theorem zpq (id : Nat) {r : RV} (c : zbt P k ps fun x => x = r) (he : callPs o (ev env) H = some (k, ps, b)) (hb : b = true → r.flat = true)
  (hf:freeN H id ((placeA id r).2 - id)) (hW:W (putA env o.dst (placeA id r).1) (placeH id H r)):callK P o W env H :=
 z87 [] id c he fun x hx=>by subst hx; exact⟨hb,hf,hW⟩
theorem zwt (ids : List Nat) {id v : Nat} {e : TypeId} {sz : Nat} {es : List (List PV)} {als : List AV} {Q : AV → Option zcb → Prop} (c : ziu P k v e sz es ps Q) (ha : callArgs o (ev env) = some (k, .row id v :: als)) (hH : sealIds ids H id = some (.row v e sz es))
  (he:lendL (lend1 (hdel (sealIds ids H) id)) als=some (ps,b))
  (hW:∀a c,Q a c→∃v' e' sz' es' a',c=some (.row v' e' sz' es')∧backA id a=some a'∧(b=true→(es'.all fun x=>x.all isVal)=true∧(match a' with | .p x=>x.scalar | _=>true)=true)∧W (putA env o.dst a') (hset (sealIds ids H) id (.row v' e' sz' es'))):callK P o W env H :=
 .inl (.inr (.inr ⟨ids,.inr ⟨k,id,v,e,sz,es,als,ps,b,Q,ha,hH,he,c,hW⟩⟩))
theorem ztc {id v : Nat} {e : TypeId} {sz : Nat} {es es' : List (List PV)} {als : List AV} (c : ziu P k v e sz es ps fun a c => a = .tup [] ∧ c = some (.row v e sz es')) (ha : callArgs o (ev env) = some (k, .row id v :: als)) (hH : H id = some (.row v e sz es))
  (he:lendL (lend1 (hdel H id)) als=some (ps,b)) (hb:b=true→(es'.all fun x=>x.all isVal)=true) (hW:W (putA env o.dst (.tup [])) (hset H id (.row v e sz es'))):callK P o W env H :=
 zwt [] c ha hH he fun a c ⟨h1,h2⟩=>by
  subst h1 h2
  exact⟨v,e,sz,es',.tup [],rfl,rfl,fun h=>⟨hb h,rfl⟩,hW⟩
theorem persF {r:RV} : false=true→r.flat=true:=fun h=>by cases h
theorem flatF {b:Bool} {r:RV} (h:r.flat=true):b=true→r.flat=true:=fun _=>h
end

def callA2 (f:AV) (als:List AV):Option (FuncId×List AV):=match f with
 | .p (.clo (.func k) fs cs)=>some (k,fs.map AV.p++als++cs.map AV.p)
 | .clo (.func k) fs cs=>some (k,fs++als++cs)
 | _=>none
theorem zbt.toL {f:FuncId} {args:List PV} {e:TypeId} {sz:Nat} {es:List (List PV)} (h:zbt P f args fun r=>r = .row e sz es):zh P f args fun x=>x = .lst es :=
 h.toV1.mono fun x hx=>by rw[hx]; simp only[RV.pv]
def argsG:Option AV→AV
 | some a=>a
 | none=>.dead
theorem zbbw (als:List AV) (t:Nat):argsA als t=argsG als[t]?:=by
 unfold argsA argsG
 cases als[t]?<;>rfl
theorem z3u (a:AV):argsG (some a)=a:=rfl
def retMA (H:za) (Q:AV→Option zcb→Prop) (a:Option AV):Prop:=match a with
 | some a=>Q a (H 1000000)
 | none=>False
theorem z10 (rs:List ResultVar) (Q:AV→Option zcb→Prop):retM P rs Q .normal env H=retMA H Q (resAV P env H rs):=rfl
theorem z4i (a:AV) (Q:AV→Option zcb→Prop):retMA H Q (some a)=Q a (H 1000000):=rfl
theorem z62:resAV P env H []=some (.tup []):=rfl
theorem zuy (d : Option Tmp) (t : TypeId) (pos : String) (af : Array Edge) (g : Option (Nat × Bool)) (f : Operand) (xs : Array Operand) (ts : Array TypeId) (ρ : Operand → AV) :
  callArgs ⟨d,.call ⟨.value f,xs,ts⟩,t,pos,af,g⟩ ρ=callA2 (ρ f) (xs.toList.map ρ):=by
 unfold callArgs callA2
 simp only[]
 generalize ρ f=v
 cases v with
 | p x=>cases x with
  | clo fn fs cs=>cases fn<;>rfl
  | _=>rfl
 | clo fn fs cs=>cases fn<;>rfl
 | _=>rfl
theorem zbdu (k:FuncId) (fs cs:List PV) (als:List AV):callA2 (.p (.clo (.func k) fs cs)) als=some (k,fs.map AV.p++als++cs.map AV.p):=rfl
theorem VR.lst_nil {I:Mem} {v:Value} (h:VR I v (.lst [])):∃ao cap,v = .slice ao 0 cap∧VR I v (.val (.slice ao 0 cap)):=by
 cases h with
 | lst ao n cap _ us sz hn =>
  simp only[List.length_nil] at hn
  subst hn
  exact⟨ao,cap,rfl,.val _ rfl⟩
theorem zbt.lst_nil {f:FuncId} {rest:List PV} {Q:RV→Prop} (hc:callable P f=true) (h:∀ao cap,zbt P f (.val (.slice ao 0 cap) :: rest) Q):zbt P f (.lst [] :: rest) Q:=by
 refine⟨hc,fun I w vs hI hv=>?_⟩
 cases vs with
 | nil=>have:=hv.1; simp at this
 | cons v vs =>
  obtain⟨ao,cap,rfl,h1⟩:=(hv.2 0 v _ rfl rfl).lst_nil
  refine (h ao cap).2 I w _ hI ⟨by simpa using hv.1,fun j u c hu hc=>?_⟩
  cases j with
  | zero=>simp at hu hc; subst hu hc; exact h1
  | succ j=>exact hv.2 (j+1) u c hu hc
theorem zh.lst_nil {f:FuncId} {rest:List PV} {Q:PV→Prop} (hc:callable P f=true) (h:∀ao cap,zh P f (.val (.slice ao 0 cap) :: rest) Q):zh P f (.lst [] :: rest) Q:=by
 refine⟨hc,fun I w vs hI hv=>?_⟩
 cases vs with
 | nil=>have:=hv.1; simp at this
 | cons v vs =>
  obtain⟨ao,cap,rfl,h1⟩:=(hv.2 0 v _ rfl rfl).lst_nil
  refine (h ao cap).2 I w _ hI ⟨by simpa using hv.1,fun j u c hu hc=>?_⟩
  cases j with
  | zero=>simp at hu hc; subst hu hc; exact h1
  | succ j=>exact hv.2 (j+1) u c hu hc
theorem z08:sealIds [] H=H:=rfl
theorem zyq (id:Nat) (r:List Nat):sealIds (id :: r) H=sealIds r (seal1 H id):=rfl
def sealC (H:za) (id:Nat) (c:Option zcb):za:=match c with
 | some (.row v _ _ es)=>hset H id (.shut v es)
 | _=>H
theorem zbdj (id:Nat):seal1 H id=sealC H id (H id):=rfl
theorem z7a (id v:Nat) (e:TypeId) (sz:Nat) (es:List (List PV)):sealC H id (some (.row v e sz es))=hset H id (.shut v es):=rfl

def maxL:List AV→Option (Prop×AV)
 | .p (.val (.int k n)) :: r=>maxX k n r
 | _=>none
section
variable (d:Option Tmp) (ty:TypeId) (pos:String) (af:Array Edge) (g:Option (Nat×Bool)) (ρ:Operand→AV)
theorem zbf5 (xs:Array Operand) (ts:Array TypeId):exM P ⟨d,.call ⟨.builtin .max,xs,ts⟩,ty,pos,af,g⟩ ρ H=up3 (maxL (xs.toList.map ρ)) H:=by
 have e:exP P ⟨d,.call ⟨.builtin .max,xs,ts⟩,ty,pos,af,g⟩ ρ=maxL (xs.toList.map ρ):=by
  simp only[exP,builtinX,maxL]
  generalize xs.toList.map ρ=l
  split<;>first | rfl | (split<;>simp_all)
 simp only[exM,e,exQ,exW,exS,up3]
 cases maxL (xs.toList.map ρ)<;>rfl
end
theorem zbez (k:IntKind) (n:Int) (r:List AV):maxL (.p (.val (.int k n)) :: r)=maxX k n r:=rfl
theorem zbef (k:IntKind) (n:Int):maxX k n []=some (True,.p (.val (.int k n))):=rfl
theorem z7n (k k':IntKind) (n m:Int) (r:List AV):maxX k n (.p (.val (.int k' m)) :: r)=maxX k (max n m) r:=rfl
theorem z82 (xs:Array Operand) (ts:Array TypeId):isApp (.call ⟨.builtin .max,xs,ts⟩)=false:=rfl
def sl3 (e:Option TypeId) (f:TypeId→Option Nat) (l:Option Int) (h m:Int) (es:List (List PV)):Option (Prop×AV):=match e,l with
 | some e,some l=>(match f e with
  | some sz=>some ((0≤l∧l≤h∧h≤m∧m≤es.length)∧∀x∈es,x.length=sz,.p (.lst ((es.take h.toNat).drop l.toNat)))
  | none=>none)
 | _,_=>none
theorem z0g {t:TypeId} {es:List (List PV)} {lo:Option AV} {k k':IntKind} {h m:Int} : sliceX P t (.p (.lst es)) lo (some (.p (.val (.int k h)))) (some (.p (.val (.int k' m))))=sl3 (slElem P t) (tySize P) (bnd 0 lo) h m es:=rfl
theorem zbdw (e : TypeId) (f : TypeId → Option Nat) (l h m : Int) (es : List (List PV)) : sl3 (some e) f (some l) h m es = (match f e with
  | some sz=>some ((0≤l∧l≤h∧h≤m∧m≤es.length)∧∀x∈es,x.length=sz,.p (.lst ((es.take h.toNat).drop l.toNat)))
  | none=>none):=rfl
attribute [go_sem] zbf5 zbez zbef z7n z82 z0g zbdw

theorem z5l:rowIds []=[]:=rfl
theorem z3g (k:Nat) (cs:List AV) (r:List (Nat×AV)):rowIds ((k,.agg cs) :: r)=rowIdsL cs++rowIds r:=rfl
theorem z1o:rowIdsL []=[]:=rfl
theorem zz5 (id v:Nat) (r:List AV):rowIdsL (.row id v :: r)=id :: rowIdsL r:=rfl
def shutR (c:Option zcb) (id ver:Nat):AV:=match c with
 | some (.shut v es)=>if v=ver then .p (.lst es) else .row id ver
 | _=>.row id ver
theorem z68 (id ver:Nat):shut1 H (.row id ver)=shutR (H id) id ver:=rfl
theorem z5u (v:Nat) (es:List (List PV)) (id ver:Nat):shutR (some (.shut v es)) id ver=if v=ver then .p (.lst es) else .row id ver:=rfl
theorem z9q (cs:List AV):shutV H (.agg cs) = .agg (cs.map (shut1 H)):=rfl
attribute [go_sem] z5l z3g z1o zz5 z68 z5u z9q
theorem zsb {o:Oper} {W:Env→za→Prop} (env2:Env) (H2:za) {pre:Prop} {v:AV} {H':za} (hw:Weak env H env2 H2) (hx:exM P o (ev env2) H2=some (pre,v,H')) (hp:pre) (hW:W (putA env2 o.dst v) H'):callK P o W env H :=
 .inr (.inl ⟨env2,H2,pre,v,H',hw,hx,hp,hW⟩)
theorem zl8 {env:Env} {H:za} (id v:Nat) (e:TypeId) (sz:Nat) (es:List (List PV)) (ts:List Nat) (hH:H id=some (.row v e sz es)) (ht:holds env id v ts) (hn:ts.Nodup):Weak env H (updL (.p (.lst es)) ts env) (hset H id (.shut v es)) :=
 fun C I L tm w hs=>⟨_,L,zq4 (es:=es) (by simp[hset]) ts _ hn (Fr.shut C I L w hH env tm hs) ht⟩
theorem zbg9 {o : Oper} {W : Env → za → Prop} (id v : Nat) (e : TypeId) (sz : Nat) (es : List (List PV)) (ts : List Nat) {pre : Prop} {x : AV} {H' : za} (hH : H id = some (.row v e sz es)) (ht : holds env id v ts) (hn : ts.Nodup)
  (hx:exM P o (ev (updL (.p (.lst es)) ts env)) (hset H id (.shut v es))=some (pre,x,H')) (hp:pre) (hW:W (putA (updL (.p (.lst es)) ts env) o.dst x) H'):callK P o W env H :=
 zsb _ _ (zl8 id v e sz es ts hH ht hn) hx hp hW
theorem z21 (t:TypeId) (i v:Nat) (lo hi mx:Option AV):sliceX P t (.row i v) lo hi mx=none:=by
 cases mx<;>rfl
attribute [go_sem] z21 zbc0 z6q z94 z25
theorem zvx {o : Oper} {W : Env → za → Prop} {k : FuncId} {ps : List PV} {b : Bool} {id v : Nat} {e : TypeId} {sz : Nat} {es es' : List (List PV)} {als : List AV} (c : ziu P k v e sz es ps fun a c => a = .row 1000000 (v + 1) ∧ c = some (.row (v + 1) e sz es'))
  (ha:callArgs o (ev env)=some (k,.row id v :: als)) (hH:H id=some (.row v e sz es))
  (he:lendL (lend1 (hdel H id)) als=some (ps,b)) (hb:b=true→(es'.all fun x=>x.all isVal)=true) (hW:W (putA env o.dst (.row id (v+1))) (hset H id (.row (v+1) e sz es'))):callK P o W env H :=
 zwt [] c ha hH he fun a c ⟨h1,h2⟩=>by
  subst h1 h2
  exact⟨v+1,e,sz,es',.row id (v+1),rfl,rfl,fun h=>⟨hb h,rfl⟩,hW⟩

attribute [go_sem] zbbw z3u z10 z4i z62 zuy zbdu z8h zpn z89 z3r zbe3 zbcu zbiv z8j z4b zbag z31 zbg2 z9v z3n z9b zbgv zbbo zbf6 zbaz z39 z4l zbih zbbl zbfi zba9 zbdk z9d z41 zbc9 z3c z5k z5b z20 z1k zbeh z5t z3b z43 z09 zyp z81 z8p z50 z08 zyq zbdj z7a Nat.add_sub_cancel_left Nat.sub_self

end Go.Abs
namespace Go.Abs
open Go.RowKit

variable {P:Program}

theorem PLes.len:∀ {ps' ps:List PV},PLes ps' ps→ps'.length=ps.length
 | [],[],_=>rfl
 | [],_ :: _,h=>h.elim
 | _ :: _,[],h=>h.elim
 | _ :: _,_ :: _,h=>by simp[PLes.len h.2]
theorem PLes.at:∀ {ps' ps:List PV},PLes ps' ps→∀ {j:Nat} {c:PV},ps[j]? = some c→∃c',ps'[j]? = some c'∧PLe c' c
 | [],[],_,_,_,h=>by simp at h
 | [],_ :: _,h,_,_,_=>h.elim
 | _ :: _,[],h,_,_,_=>h.elim
 | a :: r,b :: s,h,j,c,hc=>by
  cases j with
  | zero =>
   simp at hc
   subst hc
   exact⟨a,rfl,h.1⟩
  | succ j =>
   obtain⟨c',h1,h2⟩:=PLes.at h.2 (j:=j) (c:=c) (by simpa using hc)
   exact⟨c',by simpa using h1,h2⟩
theorem PLe.agg {ps' ps:List PV} (h:PLes ps' ps):PLe (.agg ps') (.agg ps):=fun I v hv=>by
 cases hv with
 | agg us _ hl hv hone =>
  refine .agg us ps (hl.trans h.len) (fun j u c hu hc=>?_) hone
  obtain⟨c',h1,h2⟩:=h.at hc
  exact h2 I u (hv j u c' hu h1)
theorem PLe.tup {ps' ps:List PV} (h:PLes ps' ps):PLe (.tup ps') (.tup ps):=fun I v hv=>by
 cases hv with
 | tup us _ hl hv =>
  refine .tup us ps (hl.trans h.len) (fun j u c hu hc=>?_)
  obtain⟨c',h1,h2⟩:=h.at hc
  exact h2 I u (hv j u c' hu h1)
theorem PLes.refl:∀ps:List PV,PLes ps ps
 | []=>trivial
 | a :: r=>⟨PLe.refl a,PLes.refl r⟩
theorem zh.le {f:FuncId} {args:List PV} {Q Q':PV→Prop} (h:zh P f args Q) (hq:∀r,Q r→∃r',PLe r r'∧Q' r'):zh P f args Q' :=
 ⟨h.1,fun I w vs hI hv=>(h.2 I w vs hI hv).mono fun _ _ ⟨v,r,I',h1,h2,h3,h4⟩=>by
  obtain⟨r',h5,h6⟩:=hq r h2
  exact⟨v,r',I',h1,h6,h5 _ _ h3,h4⟩⟩
end Go.Abs
namespace Go.Abs
open Go.RowKit

variable {P:Program}

structure z2p (w w':World) (hdr:Value) (n:Nat) (vs:List Value):Prop where
 grown:w.grownBy w' hdr.ownBlock
 row:∀g,hdr.ownBlock=some g→∀cur e,w.heap[g]? = some (.cells cur e (0,0))→n≤cur.size→∃cur',w'.heap[g]? = some (.cells cur' e (0,0))∧cur'.size=cur.size∧cur'.toList.take n=vs

theorem zbal {f : FuncId} {v : Nat} {e : TypeId} {sz : Nat} {es es' : List (List PV)} {ps : List PV} {ws : List Value} (hc : callable P f = true) (hlen : es'.length = es.length) (hsz : ∀ x ∈ es', x.length = sz)
  (hfl:es'.flatten=ws.map PV.val) (hone:∀u∈ws,u.oneCell'=true)
  (h:∀ (B:Nat) (I:Mem) (w:World) (hdr:Value) (us vs:List Value),B≤w.heap.size→I.inW w→RowR w B I hdr e sz es us→hdr.oneCell'=true→VRs I vs ps →
   Calls P f (hdr :: vs).toArray w fun x w'=>x = .returned (.tuple #[])∧z2p w w' hdr (es.length * sz) ws) :
  ziu P f v e sz es ps (fun a c=>a = .tup []∧c=some (.row v e sz es')):=by
 refine⟨hc,fun B I w hdr us vs hB hI hr h1 hv=>(h B I w hdr us vs hB hI hr h1 hv).mono ?_⟩
 rintro x w' ⟨rfl,hg,hrow⟩
 let L:zbl:=fun i=>if i=1000000 then some (.row v hdr sz) else none
 have hL:∀i l,L i=some l→i=1000000∧l = .row v hdr sz:=fun i l h=>by
  simp only[L] at h
  split at h
  ·rename_i hi; exact⟨hi,by simpa using h.symm⟩
  ·cases h
 have hwl:ws.length=es.length * sz:=by
  have h2:=zb8 hsz
  rw[hfl,List.length_map,hlen] at h2
  exact h2
 have hblk:∀b,hdr.ownBlock=some b→B≤b∧b<w.heap.size:=fun b hb=>zmi hr.own hb
 refine⟨.tuple #[],.tup [],hset heap0 1000000 (.row v e sz es'),I,L,rfl,⟨rfl,by simp[hset]⟩,.tup [] [] rfl (by simp),?_⟩
 exact
 {below:=⟨hg.os,hg.tape,hg.output,hg.size,fun k hk=>hg.block k (Nat.lt_of_lt_of_le hk hB) fun hb=>by have:=(hblk k hb.symm).1; have:k<B:=hk; omega⟩
  mem:=hI.keep fun b ⟨o,u,hu⟩=>hg.block b (hI.lt hu) fun hb=>by rw[hr.free b hb.symm o] at hu; cases hu
  memC:=Mem.sub_refl I
  memN:=fun _ _ _ _=>rfl
  frame:=fun b hb hn=>hg.block b hb fun hb'=>hn hb'.symm
  loc:=zcd.refl _
  blkF:=fun id l b hl hb=>by
   obtain⟨_,rfl⟩:=hL id l hl
   exact .inr hb
  size:=rfl
  env:=fun t=>.dead _
  dom:=fun i l hl=>by
   obtain⟨rfl,rfl⟩:=hL i l hl
   exact⟨.row v e sz es',by simp[hset]⟩
  chunk:=fun i ch hch=>by
   by_cases hi:i=1000000
   ·subst hi
    have:zcb.row v e sz es'=ch:=by simpa[hset] using hch
    subst this
    refine⟨hdr,ws,by simp[L],⟨by rw[hlen]; exact hwl,?_⟩,hr.pos,hsz,fun j u c hu hc=>?_,hone,hr.free⟩
    ·rcases hr.own.2 with ⟨e1,e2⟩ | ⟨g,cap,cur,rfl,g1,g2,g3,g4,g5,g6⟩
     ·exact .inl ⟨e1,by rw[hlen]; exact e2⟩
     ·obtain⟨cur',k1,k2,k3⟩:=hrow g rfl cur e g2 (by rw[g5]; exact Nat.mul_le_mul_right sz g3)
      exact .inr ⟨g,cap,cur',by rw[hlen],g1,k1,by rw[hlen]; exact g3,g4,by rw[k2]; exact g5,by rw[hlen]; exact k3⟩
    ·rw[hfl] at hc
     simp only[List.getElem?_map,hu,Option.map_some,Option.some.injEq] at hc
     subst hc
     exact .val u (hone u (List.mem_of_getElem? hu))
   ·have:heap0 i=some ch:=by simpa[hset,hi] using hch
    cases this
  blkB:=fun i l b hl hb=>by
   obtain⟨rfl,rfl⟩:=hL i l hl
   have:=hblk b hb
   exact⟨this.1,Nat.lt_of_lt_of_le this.2 hg.size⟩
  apart:=fun i j li lj b hi hj _ _=>by rw[(hL i li hi).1,(hL j lj hj).1] }
end Go.Abs
namespace Go.Abs
open Go.RowKit

variable {P:Program}

def cutHdr (hdr:Value) (n:Nat):Value:=match hdr with
 | .slice a _ cap=>.slice a n cap
 | v=>v

theorem z24 {f : FuncId} {v : Nat} {e : TypeId} {sz : Nat} {es es' : List (List PV)} {ps : List PV} {ws : List Value} (hc : callable P f = true) (hlen : es'.length ≤ es.length) (hsz : ∀ x ∈ es', x.length = sz)
  (hfl:es'.flatten=ws.map PV.val) (hone:∀u∈ws,u.oneCell'=true)
  (h:∀ (B:Nat) (I:Mem) (w:World) (hdr:Value) (us vs:List Value),B≤w.heap.size→I.inW w→RowR w B I hdr e sz es us→hdr.oneCell'=true→VRs I vs ps →
   Calls P f (hdr :: vs).toArray w fun x w'=>x = .returned (cutHdr hdr es'.length)∧z2p w w' hdr (es'.length * sz) ws) :
  ziu P f v e sz es ps (fun a c=>a = .row 1000000 (v+1)∧c=some (.row (v+1) e sz es')):=by
 refine⟨hc,fun B I w hdr us vs hB hI hr h1 hv=>(h B I w hdr us vs hB hI hr h1 hv).mono ?_⟩
 rintro x w' ⟨rfl,hg,hrow⟩
 have hwl:ws.length=es'.length * sz:=by
  have h2:=zb8 hsz
  rw[hfl,List.length_map] at h2
  exact h2
 have hbl:(cutHdr hdr es'.length).ownBlock=hdr.ownBlock:=by
  rcases hr.own.2 with ⟨rfl,_⟩ | ⟨g,cap,cur,rfl,_⟩<;>rfl
 have h1':(cutHdr hdr es'.length).oneCell'=true:=by
  rcases hr.own.2 with ⟨rfl,_⟩ | ⟨g,cap,cur,rfl,_⟩<;>rfl
 let L:zbl:=fun i=>if i=1000000 then some (.row (v+1) (cutHdr hdr es'.length) sz) else none
 have hL:∀i l,L i=some l→i=1000000∧l = .row (v+1) (cutHdr hdr es'.length) sz:=fun i l h=>by
  simp only[L] at h
  split at h
  ·rename_i hi; exact⟨hi,by simpa using h.symm⟩
  ·cases h
 have hblk:∀b,hdr.ownBlock=some b→B≤b∧b<w.heap.size:=fun b hb=>zmi hr.own hb
 refine⟨cutHdr hdr es'.length,.row 1000000 (v+1),hset heap0 1000000 (.row (v+1) e sz es'),I,L,rfl,⟨rfl,by simp[hset]⟩,.row _ 1000000 (v+1) (v+1) (cutHdr hdr es'.length) sz (by simp[L]) (Nat.le_refl _) (fun _=>rfl) h1',?_⟩
 exact
 {below:=⟨hg.os,hg.tape,hg.output,hg.size,fun k hk=>hg.block k (Nat.lt_of_lt_of_le hk hB) fun hb=>by have:=(hblk k hb.symm).1; have:k<B:=hk; omega⟩
  mem:=hI.keep fun b ⟨o,u,hu⟩=>hg.block b (hI.lt hu) fun hb=>by rw[hr.free b hb.symm o] at hu; cases hu
  memC:=Mem.sub_refl I
  memN:=fun _ _ _ _=>rfl
  frame:=fun b hb hn=>hg.block b hb fun hb'=>hn hb'.symm
  loc:=fun i=>by
   by_cases hi:i=1000000
   ·subst hi
    simp only[Ctx.lend,if_true]
    exact⟨v+1,cutHdr hdr es'.length,by simp[L],by omega,fun e=>by omega⟩
   ·simp only[Ctx.lend,if_neg hi]
  blkF:=fun id l b hl hb=>by
   obtain⟨_,rfl⟩:=hL id l hl
   exact .inr (show hdr.ownBlock=some b from hbl ▸ hb)
  size:=rfl
  env:=fun t=>.dead _
  dom:=fun i l hl=>by
   obtain⟨rfl,rfl⟩:=hL i l hl
   exact⟨.row (v+1) e sz es',by simp[hset]⟩
  chunk:=fun i ch hch=>by
   by_cases hi:i=1000000
   ·subst hi
    have:zcb.row (v+1) e sz es'=ch:=by simpa[hset] using hch
    subst this
    refine⟨cutHdr hdr es'.length,ws,by simp[L],⟨hwl,?_⟩,hr.pos,hsz,fun j u c hu hc=>?_,hone,fun b hb=>hr.free b (hbl ▸ hb)⟩
    ·rcases hr.own.2 with ⟨e1,e2⟩ | ⟨g,cap,cur,rfl,g1,g2,g3,g4,g5,g6⟩
     ·have h0:es'.length=0:=by omega
      exact .inl ⟨by rw[e1,h0]; rfl,h0⟩
     ·obtain⟨cur',k1,k2,k3⟩:=hrow g rfl cur e g2 (by rw[g5]; exact Nat.mul_le_mul_right sz (by omega))
      exact .inr ⟨g,cap,cur',rfl,g1,k1,by omega,g4,by rw[k2]; exact g5,k3⟩
    ·rw[hfl] at hc
     simp only[List.getElem?_map,hu,Option.map_some,Option.some.injEq] at hc
     subst hc
     exact .val u (hone u (List.mem_of_getElem? hu))
   ·have:heap0 i=some ch:=by simpa[hset,hi] using hch
    cases this
  blkB:=fun i l b hl hb=>by
   obtain⟨rfl,rfl⟩:=hL i l hl
   have:=hblk b (hbl ▸ hb)
   exact⟨this.1,Nat.lt_of_lt_of_le this.2 hg.size⟩
  apart:=fun i j li lj b hi hj _ _=>by rw[(hL i li hi).1,(hL j lj hj).1] }
end Go.Abs
namespace Go.SortM
open Go.Abs Go.RowKit Go.Shelf Go.Sort Go.Proofs
variable {P:Program} {ρ:Ren}
def encN (n:Int):List PV:=[.val (.int .i64 n)]
theorem zrm (d:List Int):(d.map encN).flatten=(d.map (Value.int .i64)).map .val:=by
 induction d with
 | nil=>rfl
 | cons x r ih=>rw[List.map_cons,List.flatten_cons,ih]; rfl
theorem zzd (d:List Int):∀u∈d.map (Value.int .i64),u.oneCell'=true:=fun u hu=>by
 obtain⟨y,_,rfl⟩:=List.mem_map.1 hu
 rfl
theorem zbgq {w:World} {B:Nat} {I:Mem} {hdr:Value} {e:TypeId} {d:List Int} {us:List Value} (hr:RowR w B I hdr e 1 (d.map encN) us):us=d.map (Value.int .i64):=by
 have hl:us.length=(d.map (Value.int .i64)).length:=by
  have h2:=hr.own.1
  simp only[List.length_map] at h2 ⊢
  omega
 apply List.ext_getElem hl
 intro j j1 j2
 have:=hr.val j us[j] (.val (d.map (Value.int .i64))[j]) (List.getElem?_eq_getElem j1) (by rw[zrm]; simp[j2])
 generalize us[j]=u,(d.map (Value.int .i64))[j]=u' at this
 cases this
 rfl
theorem zwx {w : World} {B : Nat} {I : Mem} {g n cap : Nat} {e : TypeId} {d : List Int} {us : List Value} {cur : Array Value} (hr : RowR w B I (.slice (some ⟨g, 0, none⟩) n cap) e 1 (d.map encN) us) (hg : w.heap[g]? = some (.cells cur e (0, 0)))
  (ht:cur.toList.take ((d.map encN).length * 1)=us):Holds (Value.int .i64) w g 0 d.toArray:=by
 refine holds_of_blockI hg ?_
 rw[zbgq hr] at ht
 simpa using ht

theorem callM_sortInt (L : Lays.n189 P ρ) (hc : callable P (ρ.f 189) = true) (d : List Int) (hd : d.length < 4611686018427387904) (v : Nat) (e : TypeId) :
  ziu P (ρ.f 189) v e 1 (d.map encN) [] (fun a c=>a = .tup []∧c=some (.row v e 1 ((d.mergeSort fun x y=>decide (x≤y)).map encN))):=by
 have hlen:(d.mergeSort fun x y=>decide (x≤y)).length=d.length:=List.length_mergeSort _
 refine zbal (ws:=(d.mergeSort fun x y=>decide (x≤y)).map (Value.int .i64)) hc (by simp[hlen]) (fun x hx=>?_) (zrm _) (zzd _) ?_
 ·obtain⟨y,_,rfl⟩:=List.mem_map.1 hx
  rfl
 intro B I w hdr us vs hB hI hr hone hv
 have hvs:vs=[]:=List.length_eq_zero_iff.1 (by simpa using hv.1)
 subst hvs
 rcases hr.own.2 with ⟨rfl,hn⟩ | ⟨g,cap,cur,rfl,g1,g2,g3,g4,g5,g6⟩
 ·have hd0:d=[]:=by simpa using hn
  subst hd0
  refine (Any.slices_Sort_int_none L none 0 w).mono ?_
  rintro x w' ⟨rfl,rfl⟩
  exact⟨rfl,⟨rfl,rfl,rfl,Nat.le_refl _,fun _ _ _=>rfl⟩,fun g hg=>by cases hg⟩
 ·have hH:=zwx hr g2 g6
  have hb:g<w.heap.size:=(Array.getElem?_eq_some_iff.1 g2).1
  have hcall:=calls_of_every_depth fun D=>AnyS.slices_Sort_int_alone L D g 0 cap d w hH hb hd
  have hn:(d.map encN).length=d.length:=List.length_map _
  rw[hn]
  refine hcall.mono ?_
  rintro x w' ⟨rfl,n,os,rfl⟩
  refine⟨rfl,grownBy_sortedI _,fun g' hg cur' e' hg' hle=>?_⟩
  have:g=g':=by simpa[Value.ownBlock] using hg
  subst this
  refine⟨_,heap_sortedI _ hg',by simp[putCells],?_⟩
  have h3:=take_putCellsI cur' (d.mergeSort fun x y=>decide (x≤y)) (by omega)
  rw[hlen] at h3
  simpa using h3

theorem z70 {w : World} {g n : Nat} {cur : Array Value} {e : TypeId} {fr : Nat × Nat} (d : Array Int) (hb : w.heap[g]? = some (.cells cur e fr)) :
  (putRow (Value.int .i64) (Sort.ahead w n) g 0 d).heap[g]? = some (.cells (putCells (Value.int .i64) 0 d cur) e fr):=by
 simp[putRow,mapBlock,Sort.ahead,Array.getElem?_modify,hb,onCells]
theorem zyo {w:World} {g n:Nat} (d:Array Int):w.grownBy (putRow (Value.int .i64) (Sort.ahead w n) g 0 d) (some g):=by
 refine⟨rfl,rfl,rfl,by simp[putRow,mapBlock,Sort.ahead],fun k hk hne=>?_⟩
 have:g≠k:=fun e=>hne (by rw[e])
 simp[putRow,mapBlock,Sort.ahead,Array.getElem?_modify,this]
theorem z3p (d:List Int):(Lib.compact d).length≤d.length:=by
 unfold Lib.compact Lib.compactUpTo
 rw[List.length_map]
 refine Nat.le_trans (List.length_filter_le _ _) ?_
 simp

theorem callM_compactInt (L : Lays2.n20 P ρ) (hc : callable P (ρ.f 20) = true) (d : List Int) (hd : d.length < 4611686018427387904) (v : Nat) (e : TypeId) :
  ziu P (ρ.f 20) v e 1 (d.map encN) [] (fun a c=>a = .row 1000000 (v+1)∧c=some (.row (v+1) e 1 ((Lib.compact d).map encN))):=by
 have hle:=z3p d
 refine z24 (ws:=(Lib.compact d).map (Value.int .i64)) hc (by simpa using hle) (fun x hx=>?_) (zrm _) (zzd _) ?_
 ·obtain⟨y,_,rfl⟩:=List.mem_map.1 hx
  rfl
 intro B I w hdr us vs hB hI hr hone hv
 have hvs:vs=[]:=List.length_eq_zero_iff.1 (by simpa using hv.1)
 subst hvs
 have hn:(d.map encN).length=d.length:=List.length_map _
 have hn':((Lib.compact d).map encN).length=(Lib.compact d).length:=List.length_map _
 rcases hr.own.2 with ⟨rfl,h0⟩ | ⟨g,cap,cur,rfl,g1,g2,g3,g4,g5,g6⟩
 ·have hd0:d=[]:=by simpa using h0
  subst hd0
  refine (Any.slices_Compact_int_empty L none 0 w).mono ?_
  rintro x w' ⟨rfl,rfl⟩
  exact⟨rfl,⟨rfl,rfl,rfl,Nat.le_refl _,fun _ _ _=>rfl⟩,fun g hg=>by cases hg⟩
 ·have hH:=zwx hr g2 g6
  rw[hn] at g3 g6
  rw[hn,hn']
  refine (Any.slices_Compact_int L g 0 cap d w hH (by omega) g3).mono ?_
  rintro x w' ⟨rfl,q,rfl⟩
  refine⟨rfl,zyo _,fun g' hg cur' e' hg' hle'=>?_⟩
  have:g=g':=by simpa[Value.ownBlock] using hg
  subst this
  have e0:cur=cur'∧e=e':=by
   rw[g2] at hg'
   simpa using hg'
  obtain⟨rfl,rfl⟩:=e0
  refine⟨_,z70 _ hg',by simp[putCells],?_⟩
  have hl2:(Lib.compact d++List.replicate (d.length - (Lib.compact d).length) 0).length=d.length:=by simp; omega
  have h3:=take_putCellsI cur (Lib.compact d++List.replicate (d.length - (Lib.compact d).length) 0) (by rw[hl2,g5]; omega)
  rw[hl2] at h3
  have h4:=congrArg (List.take (Lib.compact d).length) h3
  rw[List.take_take,Nat.min_eq_left hle,List.map_append,List.take_left' (by simp)] at h4
  simpa using h4
end Go.SortM
namespace Go.Proofs
open Go.Shelf
def YthjgdkloabgcoaaGreat.sortInt_ren:Go.Shelf.Ren:=⟨fun | 189=>120 | 125=>156 | 257=>155 | 128=>209 | 129=>210 | 294=>200 | 295=>201 | 296=>202 | 297=>203 | 298=>204 | 299=>205 | 216=>206 | 300=>207 | 301=>208 | 328=>249 | 329=>250 | 330=>251 | 331=>252 | 332=>253 | 215=>254 | 343=>276 | n=>n,fun | 28=>34 | 3=>3 | 46=>186 | 0=>0 | 51=>226 | 53=>148 | 4=>4 | 183=>257 | 182=>256 | 131=>261 | 5=>5 | 9=>9 | 218=>286 | 222=>290 | 228=>301 | 229=>269 | n=>n,fun | n=>n⟩
theorem YthjgdkloabgcoaaGreat.sortInt:Go.Proofs.Lays.n189 Tryz.prog YthjgdkloabgcoaaGreat.sortInt_ren:={
 mixed:=by kernel_rfl
 f125:=Tryz.func156.trans (congrArg some (by kernel_rfl))
 f128:=Tryz.func209.trans (congrArg some (by kernel_rfl))
 f129:=Tryz.func210.trans (congrArg some (by kernel_rfl))
 f189:=Tryz.func120.trans (congrArg some (by kernel_rfl))
 f215:=Tryz.func254.trans (congrArg some (by kernel_rfl))
 f216:=Tryz.func206.trans (congrArg some (by kernel_rfl))
 f257:=Tryz.func155.trans (congrArg some (by kernel_rfl))
 f294:=Tryz.func200.trans (congrArg some (by kernel_rfl))
 f295:=Tryz.func201.trans (congrArg some (by kernel_rfl))
 f296:=Tryz.func202.trans (congrArg some (by kernel_rfl))
 f297:=Tryz.func203.trans (congrArg some (by kernel_rfl))
 f298:=Tryz.func204.trans (congrArg some (by kernel_rfl))
 f299:=Tryz.func205.trans (congrArg some (by kernel_rfl))
 f300:=Tryz.func207.trans (congrArg some (by kernel_rfl))
 f301:=Tryz.func208.trans (congrArg some (by kernel_rfl))
 f328:=Tryz.func249.trans (congrArg some (by kernel_rfl))
 f329:=Tryz.func250.trans (congrArg some (by kernel_rfl))
 f330:=Tryz.func251.trans (congrArg some (by kernel_rfl))
 f331:=Tryz.func252.trans (congrArg some (by kernel_rfl))
 f332:=Tryz.func253.trans (congrArg some (by kernel_rfl))
 f343:=Tryz.func276.trans (congrArg some (by kernel_rfl))
 t0:=Tryz.underlying0
 a0:=Tryz.isAgg0
 z0:=Tryz.sizeOf0
 v0:=Tryz.zeroValue0
 t3:=Tryz.underlying3
 a3:=Tryz.isAgg3
 z3:=Tryz.sizeOf3
 v3:=Tryz.zeroValue3
 t4:=Tryz.underlying4
 a4:=Tryz.isAgg4
 z4:=Tryz.sizeOf4
 v4:=Tryz.zeroValue4
 t5:=Tryz.underlying5
 a5:=Tryz.isAgg5
 z5:=Tryz.sizeOf5
 v5:=Tryz.zeroValue5
 t9:=Tryz.underlying9
 a9:=Tryz.isAgg9
 z9:=Tryz.sizeOf9
 v9:=Tryz.zeroValue9
 t28:=Tryz.underlying34
 a28:=Tryz.isAgg34
 z28:=Tryz.sizeOf34
 v28:=Tryz.zeroValue34
 t46:=Tryz.underlying186
 a46:=Tryz.isAgg186
 z46:=Tryz.sizeOf186
 v46:=Tryz.zeroValue186
 t51:=Tryz.underlying226
 a51:=Tryz.isAgg226
 z51:=Tryz.sizeOf226
 v51:=Tryz.zeroValue226
 t53:=Tryz.underlying148
 a53:=Tryz.isAgg148
 z53:=Tryz.sizeOf148
 v53:=Tryz.zeroValue148
 t131:=Tryz.underlying261
 a131:=Tryz.isAgg261
 z131:=Tryz.sizeOf261
 v131:=Tryz.zeroValue261
 t182:=Tryz.underlying256
 a182:=Tryz.isAgg256
 z182:=Tryz.sizeOf256
 v182:=Tryz.zeroValue256
 t183:=Tryz.underlying257
 a183:=Tryz.isAgg257
 z183:=Tryz.sizeOf257
 v183:=Tryz.zeroValue257
 t218:=Tryz.underlying286
 a218:=Tryz.isAgg286
 z218:=Tryz.sizeOf286
 v218:=Tryz.zeroValue286
 t222:=Tryz.underlying290
 a222:=Tryz.isAgg290
 z222:=Tryz.sizeOf290
 v222:=Tryz.zeroValue290
 t228:=Tryz.underlying301
 a228:=Tryz.isAgg301
 z228:=Tryz.sizeOf301
 v228:=Tryz.zeroValue301
 t229:=Tryz.underlying269
 a229:=Tryz.isAgg269
 z229:=Tryz.sizeOf269
 v229:=Tryz.zeroValue269 }
def YthjgdkloabgcoaaGreat.compactInt_ren:Go.Shelf.Ren:=⟨fun | 20=>121 | n=>n,fun | 22=>34 | 3=>3 | 4=>4 | 0=>0 | n=>n,fun | n=>n⟩
theorem YthjgdkloabgcoaaGreat.compactInt:Go.Proofs.Lays2.n20 Tryz.prog YthjgdkloabgcoaaGreat.compactInt_ren:={
 mixed:=by kernel_rfl
 f20:=Tryz.func121.trans (congrArg some (by kernel_rfl))
 t0:=Tryz.underlying0
 a0:=Tryz.isAgg0
 z0:=Tryz.sizeOf0
 v0:=Tryz.zeroValue0
 t3:=Tryz.underlying3
 a3:=Tryz.isAgg3
 z3:=Tryz.sizeOf3
 v3:=Tryz.zeroValue3
 t4:=Tryz.underlying4
 a4:=Tryz.isAgg4
 z4:=Tryz.sizeOf4
 v4:=Tryz.zeroValue4
 t22:=Tryz.underlying34
 a22:=Tryz.isAgg34
 z22:=Tryz.sizeOf34
 v22:=Tryz.zeroValue34
 i3:=by kernel_rfl }
end Go.Proofs
namespace Go.Proofs.YthjgdkloabgcoaaGreat.Ty
open Go Go.Abs
theorem mixed:Tryz.prog.follows .mixedOrders=true:=by kernel_rfl
@[go_sem] theorem byt3:tyBytes Tryz.prog 3=some 8:=by kernel_rfl
@[go_sem] theorem size3:tySize Tryz.prog 3=some 1:=by kernel_rfl
@[go_sem] theorem agg3:tyAgg Tryz.prog 3=some false:=by kernel_rfl
@[go_sem] theorem zero3:tyZero Tryz.prog 3=some [.int .i64 0]:=by kernel_rfl
@[go_sem] theorem int3:tyInt Tryz.prog 3=some .i64:=by kernel_rfl
@[go_sem] theorem und3:(Program.underlying Tryz.prog 3).isSome=true:=by kernel_rfl
@[go_sem] theorem byt4:tyBytes Tryz.prog 4=some 1:=by kernel_rfl
@[go_sem] theorem size4:tySize Tryz.prog 4=some 1:=by kernel_rfl
@[go_sem] theorem agg4:tyAgg Tryz.prog 4=some false:=by kernel_rfl
@[go_sem] theorem zero4:tyZero Tryz.prog 4=some [.bool false]:=by kernel_rfl
@[go_sem] theorem bool4:tyBool Tryz.prog 4=true:=by kernel_rfl
@[go_sem] theorem size9:tySize Tryz.prog 9=some 1:=by kernel_rfl
@[go_sem] theorem agg9:tyAgg Tryz.prog 9=some false:=by kernel_rfl
@[go_sem] theorem zero9:tyZero Tryz.prog 9=some [.string ⟨#[]⟩]:=by kernel_rfl
@[go_sem] theorem str9:tyStr Tryz.prog 9=true:=by kernel_rfl
@[go_sem] theorem size22:tySize Tryz.prog 22=some 1:=by kernel_rfl
@[go_sem] theorem agg22:tyAgg Tryz.prog 22=some false:=by kernel_rfl
@[go_sem] theorem elem22:slElem Tryz.prog 22=some 113:=by kernel_rfl
@[go_sem] theorem isSl22:isSlice Tryz.prog 22=true:=by kernel_rfl
@[go_sem] theorem size23:tySize Tryz.prog 23=some 1:=by kernel_rfl
@[go_sem] theorem agg23:tyAgg Tryz.prog 23=some false:=by kernel_rfl
@[go_sem] theorem elem23:slElem Tryz.prog 23=some 115:=by kernel_rfl
@[go_sem] theorem isSl23:isSlice Tryz.prog 23=true:=by kernel_rfl
@[go_sem] theorem size25:tySize Tryz.prog 25=some 2:=by kernel_rfl
@[go_sem] theorem agg25:tyAgg Tryz.prog 25=some true:=by kernel_rfl
@[go_sem] theorem zero25:tyZero Tryz.prog 25=some [.slice none 0 0,.slice none 0 0]:=by kernel_rfl
@[go_sem] theorem pl25:tyPlaces Tryz.prog 25=some [(0,1),(1,1)]:=by kernel_rfl
@[go_sem] theorem fld25_0:fldOff Tryz.prog 25 0=some (0,1):=by kernel_rfl
@[go_sem] theorem fld25_1:fldOff Tryz.prog 25 1=some (1,1):=by kernel_rfl
@[go_sem] theorem elem26:slElem Tryz.prog 26=some 49:=by kernel_rfl
@[go_sem] theorem isSl26:isSlice Tryz.prog 26=true:=by kernel_rfl
@[go_sem] theorem app26:appTypes Tryz.prog 26 26=some (49,25,512):=by kernel_rfl
@[go_sem] theorem elem29:slElem Tryz.prog 29=some 52:=by kernel_rfl
@[go_sem] theorem isSl29:isSlice Tryz.prog 29=true:=by kernel_rfl
@[go_sem] theorem app29:appTypes Tryz.prog 29 29=some (52,4,32):=by kernel_rfl
@[go_sem] theorem size34:tySize Tryz.prog 34=some 1:=by kernel_rfl
@[go_sem] theorem agg34:tyAgg Tryz.prog 34=some false:=by kernel_rfl
@[go_sem] theorem zero34:tyZero Tryz.prog 34=some [.slice none 0 0]:=by kernel_rfl
@[go_sem] theorem elem34:slElem Tryz.prog 34=some 3:=by kernel_rfl
@[go_sem] theorem isSl34:isSlice Tryz.prog 34=true:=by kernel_rfl
@[go_sem] theorem app34:appTypes Tryz.prog 34 34=some (3,1,8):=by kernel_rfl
@[go_sem] theorem size35:tySize Tryz.prog 35=some 1:=by kernel_rfl
@[go_sem] theorem agg35:tyAgg Tryz.prog 35=some false:=by kernel_rfl
@[go_sem] theorem elem35:slElem Tryz.prog 35=some 117:=by kernel_rfl
@[go_sem] theorem isSl35:isSlice Tryz.prog 35=true:=by kernel_rfl
@[go_sem] theorem app35:appTypes Tryz.prog 35 35=some (117,3,24):=by kernel_rfl
@[go_sem] theorem size37:tySize Tryz.prog 37=some 2:=by kernel_rfl
@[go_sem] theorem agg37:tyAgg Tryz.prog 37=some true:=by kernel_rfl
@[go_sem] theorem zero37:tyZero Tryz.prog 37=some [.slice none 0 0,.slice none 0 0]:=by kernel_rfl
@[go_sem] theorem pl37:tyPlaces Tryz.prog 37=some [(0,1),(1,1)]:=by kernel_rfl
@[go_sem] theorem fld37_0:fldOff Tryz.prog 37 0=some (0,1):=by kernel_rfl
@[go_sem] theorem fld37_1:fldOff Tryz.prog 37 1=some (1,1):=by kernel_rfl
@[go_sem] theorem size38:tySize Tryz.prog 38=some 1:=by kernel_rfl
@[go_sem] theorem agg38:tyAgg Tryz.prog 38=some false:=by kernel_rfl
@[go_sem] theorem elem38:slElem Tryz.prog 38=some 201:=by kernel_rfl
@[go_sem] theorem isSl38:isSlice Tryz.prog 38=true:=by kernel_rfl
@[go_sem] theorem size39:tySize Tryz.prog 39=some 1:=by kernel_rfl
@[go_sem] theorem agg39:tyAgg Tryz.prog 39=some false:=by kernel_rfl
@[go_sem] theorem elem39:slElem Tryz.prog 39=some 203:=by kernel_rfl
@[go_sem] theorem isSl39:isSlice Tryz.prog 39=true:=by kernel_rfl
@[go_sem] theorem size41:tySize Tryz.prog 41=some 5:=by kernel_rfl
@[go_sem] theorem agg41:tyAgg Tryz.prog 41=some true:=by kernel_rfl
@[go_sem] theorem zero41:tyZero Tryz.prog 41=some [.slice none 0 0,.slice none 0 0,.slice none 0 0,.int .i64 0,.slice none 0 0]:=by kernel_rfl
@[go_sem] theorem pl41:tyPlaces Tryz.prog 41=some [(0,2),(2,1),(3,1),(4,1)]:=by kernel_rfl
@[go_sem] theorem fld41_0:fldOff Tryz.prog 41 0=some (0,2):=by kernel_rfl
@[go_sem] theorem fld41_1:fldOff Tryz.prog 41 1=some (2,1):=by kernel_rfl
@[go_sem] theorem fld41_2:fldOff Tryz.prog 41 2=some (3,1):=by kernel_rfl
@[go_sem] theorem fld41_3:fldOff Tryz.prog 41 3=some (4,1):=by kernel_rfl
@[go_sem] theorem size43:tySize Tryz.prog 43=some 2:=by kernel_rfl
@[go_sem] theorem agg43:tyAgg Tryz.prog 43=some true:=by kernel_rfl
@[go_sem] theorem zero43:tyZero Tryz.prog 43=some [.slice none 0 0,.slice none 0 0]:=by kernel_rfl
@[go_sem] theorem pl43:tyPlaces Tryz.prog 43=some [(0,1),(1,1)]:=by kernel_rfl
@[go_sem] theorem fld43_0:fldOff Tryz.prog 43 0=some (0,1):=by kernel_rfl
@[go_sem] theorem fld43_1:fldOff Tryz.prog 43 1=some (1,1):=by kernel_rfl
@[go_sem] theorem size44:tySize Tryz.prog 44=some 2:=by kernel_rfl
@[go_sem] theorem agg44:tyAgg Tryz.prog 44=some true:=by kernel_rfl
@[go_sem] theorem zero44:tyZero Tryz.prog 44=some [.slice none 0 0,.slice none 0 0]:=by kernel_rfl
@[go_sem] theorem pl44:tyPlaces Tryz.prog 44=some [(0,1),(1,1)]:=by kernel_rfl
@[go_sem] theorem fld44_0:fldOff Tryz.prog 44 0=some (0,1):=by kernel_rfl
@[go_sem] theorem fld44_1:fldOff Tryz.prog 44 1=some (1,1):=by kernel_rfl
@[go_sem] theorem size45:tySize Tryz.prog 45=some 1:=by kernel_rfl
@[go_sem] theorem agg45:tyAgg Tryz.prog 45=some false:=by kernel_rfl
@[go_sem] theorem elem45:slElem Tryz.prog 45=some 47:=by kernel_rfl
@[go_sem] theorem isSl45:isSlice Tryz.prog 45=true:=by kernel_rfl
@[go_sem] theorem size47:tySize Tryz.prog 47=some 9:=by kernel_rfl
@[go_sem] theorem agg47:tyAgg Tryz.prog 47=some true:=by kernel_rfl
@[go_sem] theorem zero47:tyZero Tryz.prog 47=some [.int .i64 0,.slice none 0 0,.slice none 0 0,.slice none 0 0,.slice none 0 0,.slice none 0 0,.slice none 0 0,.int .i64 0,.slice none 0 0]:=by kernel_rfl
@[go_sem] theorem pl47:tyPlaces Tryz.prog 47=some [(0,1),(1,1),(2,2),(4,5)]:=by kernel_rfl
@[go_sem] theorem fld47_0:fldOff Tryz.prog 47 0=some (0,1):=by kernel_rfl
@[go_sem] theorem fld47_1:fldOff Tryz.prog 47 1=some (1,1):=by kernel_rfl
@[go_sem] theorem fld47_2:fldOff Tryz.prog 47 2=some (2,2):=by kernel_rfl
@[go_sem] theorem fld47_3:fldOff Tryz.prog 47 3=some (4,5):=by kernel_rfl
@[go_sem] theorem size49:tySize Tryz.prog 49=some 25:=by kernel_rfl
@[go_sem] theorem agg49:tyAgg Tryz.prog 49=some true:=by kernel_rfl
@[go_sem] theorem zero49:tyZero Tryz.prog 49=some [.string ⟨#[]⟩,.slice none 0 0,.slice none 0 0,.slice none 0 0,.int .i64 0,.slice none 0 0,.slice none 0 0,.slice none 0 0,.slice none 0 0,.int .i64 0,.slice none 0 0,.slice none 0 0,.slice none 0 0,.slice none 0 0,.slice none 0 0,.bool false,.int .i64 0,.slice none 0 0,.slice none 0 0,.slice none 0 0,.slice none 0 0,.slice none 0 0,.slice none 0 0,.int .i64 0,.slice none 0 0]:=by kernel_rfl
@[go_sem] theorem pl49:tyPlaces Tryz.prog 49=some [(0,1),(1,5),(6,5),(11,2),(13,2),(15,1),(16,9)]:=by kernel_rfl
@[go_sem] theorem fld49_0:fldOff Tryz.prog 49 0=some (0,1):=by kernel_rfl
@[go_sem] theorem fld49_1:fldOff Tryz.prog 49 1=some (1,5):=by kernel_rfl
@[go_sem] theorem fld49_2:fldOff Tryz.prog 49 2=some (6,5):=by kernel_rfl
@[go_sem] theorem fld49_3:fldOff Tryz.prog 49 3=some (11,2):=by kernel_rfl
@[go_sem] theorem fld49_4:fldOff Tryz.prog 49 4=some (13,2):=by kernel_rfl
@[go_sem] theorem fld49_6:fldOff Tryz.prog 49 6=some (16,9):=by kernel_rfl
@[go_sem] theorem size52:tySize Tryz.prog 52=some 4:=by kernel_rfl
@[go_sem] theorem agg52:tyAgg Tryz.prog 52=some true:=by kernel_rfl
@[go_sem] theorem zero52:tyZero Tryz.prog 52=some [.int .i64 0,.int .i64 0,.int .i64 0,.int .i64 0]:=by kernel_rfl
@[go_sem] theorem pl52:tyPlaces Tryz.prog 52=some [(0,1),(1,1),(2,1),(3,1)]:=by kernel_rfl
@[go_sem] theorem fld52_0:fldOff Tryz.prog 52 0=some (0,1):=by kernel_rfl
@[go_sem] theorem fld52_1:fldOff Tryz.prog 52 1=some (1,1):=by kernel_rfl
@[go_sem] theorem fld52_2:fldOff Tryz.prog 52 2=some (2,1):=by kernel_rfl
@[go_sem] theorem fld52_3:fldOff Tryz.prog 52 3=some (3,1):=by kernel_rfl
@[go_sem] theorem size54:tySize Tryz.prog 54=some 3:=by kernel_rfl
@[go_sem] theorem agg54:tyAgg Tryz.prog 54=some true:=by kernel_rfl
@[go_sem] theorem zero54:tyZero Tryz.prog 54=some [.slice none 0 0,.slice none 0 0,.slice none 0 0]:=by kernel_rfl
@[go_sem] theorem pl54:tyPlaces Tryz.prog 54=some [(0,1),(1,1),(2,1)]:=by kernel_rfl
@[go_sem] theorem fld54_0:fldOff Tryz.prog 54 0=some (0,1):=by kernel_rfl
@[go_sem] theorem fld54_1:fldOff Tryz.prog 54 1=some (1,1):=by kernel_rfl
@[go_sem] theorem elem80:slElem Tryz.prog 80=some 85:=by kernel_rfl
@[go_sem] theorem isSl80:isSlice Tryz.prog 80=true:=by kernel_rfl
@[go_sem] theorem app80:appTypes Tryz.prog 80 80=some (85,2,48):=by kernel_rfl
@[go_sem] theorem size85:tySize Tryz.prog 85=some 2:=by kernel_rfl
@[go_sem] theorem agg85:tyAgg Tryz.prog 85=some true:=by kernel_rfl
@[go_sem] theorem zero85:tyZero Tryz.prog 85=some [.slice none 0 0,.slice none 0 0]:=by kernel_rfl
@[go_sem] theorem pl85:tyPlaces Tryz.prog 85=some [(0,1),(1,1)]:=by kernel_rfl
@[go_sem] theorem fld85_0:fldOff Tryz.prog 85 0=some (0,1):=by kernel_rfl
@[go_sem] theorem fld85_1:fldOff Tryz.prog 85 1=some (1,1):=by kernel_rfl
@[go_sem] theorem size108:tySize Tryz.prog 108=some 1:=by kernel_rfl
@[go_sem] theorem agg108:tyAgg Tryz.prog 108=some false:=by kernel_rfl
@[go_sem] theorem elem108:slElem Tryz.prog 108=some 9:=by kernel_rfl
@[go_sem] theorem isSl108:isSlice Tryz.prog 108=true:=by kernel_rfl
@[go_sem] theorem app108:appTypes Tryz.prog 108 108=some (9,1,16):=by kernel_rfl
@[go_sem] theorem size110:tySize Tryz.prog 110=some 4:=by kernel_rfl
@[go_sem] theorem agg110:tyAgg Tryz.prog 110=some true:=by kernel_rfl
@[go_sem] theorem zero110:tyZero Tryz.prog 110=some [.string ⟨#[]⟩,.int .i64 0,.int .i64 0,.slice none 0 0]:=by kernel_rfl
@[go_sem] theorem pl110:tyPlaces Tryz.prog 110=some [(0,1),(1,1),(2,1),(3,1)]:=by kernel_rfl
@[go_sem] theorem fld110_0:fldOff Tryz.prog 110 0=some (0,1):=by kernel_rfl
@[go_sem] theorem fld110_1:fldOff Tryz.prog 110 1=some (1,1):=by kernel_rfl
@[go_sem] theorem fld110_2:fldOff Tryz.prog 110 2=some (2,1):=by kernel_rfl
@[go_sem] theorem fld110_3:fldOff Tryz.prog 110 3=some (3,1):=by kernel_rfl
@[go_sem] theorem size111:tySize Tryz.prog 111=some 1:=by kernel_rfl
@[go_sem] theorem agg111:tyAgg Tryz.prog 111=some false:=by kernel_rfl
@[go_sem] theorem elem111:slElem Tryz.prog 111=some 110:=by kernel_rfl
@[go_sem] theorem isSl111:isSlice Tryz.prog 111=true:=by kernel_rfl
@[go_sem] theorem app111:appTypes Tryz.prog 111 111=some (110,4,56):=by kernel_rfl
@[go_sem] theorem size113:tySize Tryz.prog 113=some 4:=by kernel_rfl
@[go_sem] theorem agg113:tyAgg Tryz.prog 113=some true:=by kernel_rfl
@[go_sem] theorem zero113:tyZero Tryz.prog 113=some [.string ⟨#[]⟩,.int .i64 0,.bool false,.slice none 0 0]:=by kernel_rfl
@[go_sem] theorem pl113:tyPlaces Tryz.prog 113=some [(0,1),(1,1),(2,1),(3,1)]:=by kernel_rfl
@[go_sem] theorem fld113_0:fldOff Tryz.prog 113 0=some (0,1):=by kernel_rfl
@[go_sem] theorem fld113_1:fldOff Tryz.prog 113 1=some (1,1):=by kernel_rfl
@[go_sem] theorem fld113_2:fldOff Tryz.prog 113 2=some (2,1):=by kernel_rfl
@[go_sem] theorem fld113_3:fldOff Tryz.prog 113 3=some (3,1):=by kernel_rfl
@[go_sem] theorem size115:tySize Tryz.prog 115=some 7:=by kernel_rfl
@[go_sem] theorem agg115:tyAgg Tryz.prog 115=some true:=by kernel_rfl
@[go_sem] theorem zero115:tyZero Tryz.prog 115=some [.string ⟨#[]⟩,.int .i64 0,.int .i64 0,.int .i64 0,.int .i64 0,.int .i64 0,.int .i64 0]:=by kernel_rfl
@[go_sem] theorem pl115:tyPlaces Tryz.prog 115=some [(0,1),(1,1),(2,1),(3,1),(4,1),(5,1),(6,1)]:=by kernel_rfl
@[go_sem] theorem fld115_0:fldOff Tryz.prog 115 0=some (0,1):=by kernel_rfl
@[go_sem] theorem fld115_1:fldOff Tryz.prog 115 1=some (1,1):=by kernel_rfl
@[go_sem] theorem fld115_2:fldOff Tryz.prog 115 2=some (2,1):=by kernel_rfl
@[go_sem] theorem fld115_3:fldOff Tryz.prog 115 3=some (3,1):=by kernel_rfl
@[go_sem] theorem fld115_4:fldOff Tryz.prog 115 4=some (4,1):=by kernel_rfl
@[go_sem] theorem fld115_5:fldOff Tryz.prog 115 5=some (5,1):=by kernel_rfl
@[go_sem] theorem fld115_6:fldOff Tryz.prog 115 6=some (6,1):=by kernel_rfl
@[go_sem] theorem size117:tySize Tryz.prog 117=some 3:=by kernel_rfl
@[go_sem] theorem agg117:tyAgg Tryz.prog 117=some true:=by kernel_rfl
@[go_sem] theorem zero117:tyZero Tryz.prog 117=some [.int .i64 0,.int .i64 0,.int .i64 0]:=by kernel_rfl
@[go_sem] theorem pl117:tyPlaces Tryz.prog 117=some [(0,1),(1,1),(2,1)]:=by kernel_rfl
@[go_sem] theorem fld117_0:fldOff Tryz.prog 117 0=some (0,1):=by kernel_rfl
@[go_sem] theorem fld117_1:fldOff Tryz.prog 117 1=some (1,1):=by kernel_rfl
@[go_sem] theorem fld117_2:fldOff Tryz.prog 117 2=some (2,1):=by kernel_rfl
@[go_sem] theorem int186:tyInt Tryz.prog 186=some .u64:=by kernel_rfl
@[go_sem] theorem und186:(Program.underlying Tryz.prog 186).isSome=true:=by kernel_rfl
@[go_sem] theorem size199:tySize Tryz.prog 199=some 2:=by kernel_rfl
@[go_sem] theorem agg199:tyAgg Tryz.prog 199=some true:=by kernel_rfl
@[go_sem] theorem zero199:tyZero Tryz.prog 199=some [.int .i64 0,.int .i64 0]:=by kernel_rfl
@[go_sem] theorem fld199_0:fldOff Tryz.prog 199 0=some (0,1):=by kernel_rfl
@[go_sem] theorem fld199_1:fldOff Tryz.prog 199 1=some (1,1):=by kernel_rfl
@[go_sem] theorem size201:tySize Tryz.prog 201=some 4:=by kernel_rfl
@[go_sem] theorem agg201:tyAgg Tryz.prog 201=some true:=by kernel_rfl
@[go_sem] theorem zero201:tyZero Tryz.prog 201=some [.int .i64 0,.int .i64 0,.int .i64 0,.int .i64 0]:=by kernel_rfl
@[go_sem] theorem fld201_0:fldOff Tryz.prog 201 0=some (0,1):=by kernel_rfl
@[go_sem] theorem fld201_1:fldOff Tryz.prog 201 1=some (1,1):=by kernel_rfl
@[go_sem] theorem fld201_2:fldOff Tryz.prog 201 2=some (2,2):=by kernel_rfl
@[go_sem] theorem size203:tySize Tryz.prog 203=some 5:=by kernel_rfl
@[go_sem] theorem agg203:tyAgg Tryz.prog 203=some true:=by kernel_rfl
@[go_sem] theorem zero203:tyZero Tryz.prog 203=some [.int .i64 0,.int .i64 0,.int .i64 0,.int .i64 0,.int .i64 0]:=by kernel_rfl
@[go_sem] theorem fld203_0:fldOff Tryz.prog 203 0=some (0,1):=by kernel_rfl
@[go_sem] theorem fld203_1:fldOff Tryz.prog 203 1=some (1,2):=by kernel_rfl
@[go_sem] theorem fld203_2:fldOff Tryz.prog 203 2=some (3,2):=by kernel_rfl
@[go_sem] theorem elem207:slElem Tryz.prog 207=some 4:=by kernel_rfl
@[go_sem] theorem isSl207:isSlice Tryz.prog 207=true:=by kernel_rfl
@[go_sem] theorem size219:tySize Tryz.prog 219=some 3:=by kernel_rfl
@[go_sem] theorem agg219:tyAgg Tryz.prog 219=some true:=by kernel_rfl
@[go_sem] theorem zero219:tyZero Tryz.prog 219=some [.int .i64 0,.string ⟨#[]⟩,.int .i64 0]:=by kernel_rfl
@[go_sem] theorem pl219:tyPlaces Tryz.prog 219=some [(0,1),(1,1),(2,1)]:=by kernel_rfl
@[go_sem] theorem fld219_0:fldOff Tryz.prog 219 0=some (0,1):=by kernel_rfl
@[go_sem] theorem fld219_1:fldOff Tryz.prog 219 1=some (1,1):=by kernel_rfl
@[go_sem] theorem sk52:structK Tryz.prog 52=some [.i,.i,.i,.i]:=by kernel_rfl
end Go.Proofs.YthjgdkloabgcoaaGreat.Ty
namespace Go.Abs
theorem take0 {α β:Type} (f:α→β) (l:List α) (n:Nat):(l.map f).take n=(l.take n).map f:=(List.map_take ..).symm
theorem drop0 {α β:Type} (f:α→β) (l:List α) (n:Nat):(l.map f).drop n=(l.drop n).map f:=(List.map_drop ..).symm
attribute [go_sem] Nat.reduceEqDiff Nat.reduceLT Nat.reduceLeDiff Nat.reduceMul Nat.reduceAdd Nat.reduceBEq Nat.reduceSub Int.reduceToNat reduceIte reduceCtorEq
attribute [go_sem] take0 drop0 Nat.le_refl Nat.not_lt_zero Nat.zero_le Nat.zero_lt_succ decide_true decide_false Bool.not_not exists_eq'
end Go.Abs
namespace Go.Proofs.YthjgdkloabgcoaaGreat
open Go.Abs

def encI (n:Int):List PV:=[.val (.int .i64 n)]
def encS (s:ByteArray):List PV:=[.val (.string s)]
def encInts (l:List Int):PV:=.lst (l.map encI)
def encStrs (l:List ByteArray):PV:=.lst (l.map encS)

structure Attr where
 name:ByteArray
 low:Int
 high:Int
 names:List ByteArray
structure zd0 where
 name:ByteArray
 parent:Int
 abs:Bool
 attrs:List Attr
structure zh2 where
 name:ByteArray
 src:Int
 dst:Int
 outLow:Int
 outHigh:Int
 inLow:Int
 inHigh:Int
structure zl where
 nodes:List zd0
 edges:List zh2
structure Sorts where
 nodes:List Int
 edges:List Int
structure Edge where
 type:Int
 src:Int
 dst:Int
structure z8 where
 nodes:List Int
 edges:List Edge
structure Host where
 graph:z8
 values:List (List Int)
structure zbip where
 a:Int
 b:Int

instance:Inhabited ByteArray:=⟨.empty⟩
instance:Inhabited Attr:=⟨⟨.empty,0,0,[]⟩⟩
instance:Inhabited zd0:=⟨⟨.empty,0,false,[]⟩⟩
instance:Inhabited zh2:=⟨⟨.empty,0,0,0,0,0,0⟩⟩
instance:Inhabited Edge:=⟨⟨0,0,0⟩⟩
instance:Inhabited zbip:=⟨⟨0,0⟩⟩

def encAttr (a:Attr):List PV:=[.val (.string a.name),.val (.int .i64 a.low),.val (.int .i64 a.high),encStrs a.names]
def encNode (n:zd0):List PV:=[.val (.string n.name),.val (.int .i64 n.parent),.val (.bool n.abs),.lst (n.attrs.map encAttr)]
def encEdgeT (e:zh2):List PV:=[.val (.string e.name),.val (.int .i64 e.src),.val (.int .i64 e.dst),.val (.int .i64 e.outLow),.val (.int .i64 e.outHigh),.val (.int .i64 e.inLow),.val (.int .i64 e.inHigh)]
def encEdge (e:Edge):List PV:=[.val (.int .i64 e.type),.val (.int .i64 e.src),.val (.int .i64 e.dst)]
def encTypes (t:zl):PV:=.agg [.lst (t.nodes.map encNode),.lst (t.edges.map encEdgeT)]
def encGraph (g:z8):PV:=.agg [encInts g.nodes,.lst (g.edges.map encEdge)]
theorem zj {α:Type} [Inhabited α] (f:α→List PV) {l:List α} {n:Nat} (h:n<l.length):(l.map f).getD n []=f (l.getD n default):=by
 simp[h]
theorem zvo {α:Type} [Inhabited α] {l:List α} {n:Nat} (h:n<l.length):l.take (n+1)=l.take n++[l.getD n default]:=by
 rw[List.take_add_one]; simp[h]
theorem zt {k n:Nat} (h:k<n) (hn:n≤4611686018427387904):IntKind.i64.wrap ((k:Int)+1)=((k+1:Nat):Int):=by
 rw[IntWalk.i64_in _ (by omega)]; omega

section
variable {P:Program} {N:Nat} {own:List Nat} {ops:Array Oper} {K:Env→za→Prop} {env:Env} {H:za}
theorem zu2 (x:PV):lend1 H (.p x)=some (x,false):=rfl
theorem zfq (ps:List PV):lendL (lend1 H) (ps.map AV.p)=some (ps,false):=by
 induction ps with
 | nil=>rfl
 | cons a r ih=>simp[lendL,zu2,ih]
theorem zfx (qs bs:List AV):lendL (lend1 H) (qs++bs)=(match lendL (lend1 H) qs,lendL (lend1 H) bs with | some (xs,b),some (ys,c)=>some (xs++ys,b||c) | _,_=>none):=by
 induction qs with
 | nil =>
  simp only[List.nil_append,lendL]
  cases lendL (lend1 H) bs with
  | none=>rfl
  | some r=>obtain⟨ys,c⟩:=r; simp
 | cons a r ih =>
  simp only[List.cons_append,lendL,ih]
  cases lend1 H a with
  | none=>rfl
  | some q =>
   cases lendL (lend1 H) r with
   | none=>rfl
   | some r1 =>
    cases lendL (lend1 H) bs with
    | none=>rfl
    | some r2=>simp[Bool.or_assoc]
theorem zg {b:Bool} {x y:Code} {K:Kont} (h1:b=true→condC P N own (.p (.val (.bool false))) x y K env H) (h2:b=false→condC P N own (.p (.val (.bool true))) x y K env H):condC P N own (.p (.val (.bool !b))) x y K env H:=by
 cases b
 ·exact h2 rfl
 ·exact h1 rfl
theorem zq {b:Bool} {o:Oper} {rest:List Oper} (h1:b=true→walkG P N own ops (some true) o rest K env H) (h2:b=false→walkG P N own ops (some false) o rest K env H):walkG P N own ops (some b) o rest K env H:=by
 cases b
 ·exact h2 rfl
 ·exact h1 rfl
theorem zw {b:Bool} {o:Oper} {rest:List Oper} (h1:b=true→walkG P N own ops (some false) o rest K env H) (h2:b=false→walkG P N own ops (some true) o rest K env H):walkG P N own ops (some !b) o rest K env H:=by
 cases b
 ·exact h2 rfl
 ·exact h1 rfl
theorem zfm {b:Bool} {c:Cls} {o:Oper} {rest:List (Oper×Cls)} (h1:b=true→walkDG P N own ops (some false) c o rest K env H) (h2:b=false→walkDG P N own ops (some true) c o rest K env H):walkDG P N own ops (some !b) c o rest K env H:=by
 cases b
 ·exact h2 rfl
 ·exact h1 rfl
theorem zdi {b:Bool} {c:Cls} {o:Oper} {rest:List (Oper×Cls)} (h1:b=true→walkDG P N own ops (some true) c o rest K env H) (h2:b=false→walkDG P N own ops (some false) c o rest K env H):walkDG P N own ops (some b) c o rest K env H:=by
 cases b
 ·exact h2 rfl
 ·exact h1 rfl
end
end Go.Proofs.YthjgdkloabgcoaaGreat
namespace Go.Proofs.YthjgdkloabgcoaaGreat
open Go.Abs

theorem zlq (n a b:Int):zh Tryz.prog 107 [.val (.int .i64 n),.val (.int .i64 a),.val (.int .i64 b)] (fun r=>r = .val (.bool (decide (a≤n)&&decide (n≤b)))):=by
 refine zf [] Ty.mixed Tryz.func107 rfl (by kernel_rfl) (by simp[Tryz.ntmps107]) ?_; rw[Tryz.ntmps107,Tryz.results107]
 simp -implicitDefEqProofs only[go_sem]
 refine zq (fun h=>?_) (fun h=>?_)<;>simp -implicitDefEqProofs only[go_sem,h]

theorem zob (n m:Int):zh Tryz.prog 229 [.val (.int .i64 n),.val (.int .i64 m)] (fun r=>r = .val (.bool (decide (0≤n)&&decide (n≤m)))):=by
 refine zf [] Ty.mixed Tryz.func229 rfl (by kernel_rfl) (by simp[Tryz.ntmps229]) ?_; rw[Tryz.ntmps229,Tryz.results229]
 simp -implicitDefEqProofs only[go_sem]
 refine zq (fun h=>?_) (fun h=>?_)<;>simp -implicitDefEqProofs only[go_sem,h]
end Go.Proofs.YthjgdkloabgcoaaGreat
namespace Go.Proofs.YthjgdkloabgcoaaGreat
open Go.Abs

def boundB (a b:Int):Bool:=(decide (0≤a)&&decide (a≤40))&&(decide (b = -1)||(decide (a≤b)&&decide (b≤40)))
theorem zuj (a b:Int):zh Tryz.prog 115 [.val (.int .i64 a),.val (.int .i64 b)] (fun r=>r = .val (.bool (boundB a b))):=by
 unfold boundB
 refine zf [] Ty.mixed Tryz.func115 rfl (by kernel_rfl) (by simp[Tryz.ntmps115]) ?_; rw[Tryz.ntmps115,Tryz.results115]
 simp -implicitDefEqProofs only[go_sem]
 repeat' first | done | (refine zw (fun h=>?_) (fun h=>?_)<;>try simp -implicitDefEqProofs only[go_sem,h]) | (refine zq (fun h=>?_) (fun h=>?_)<;>try simp -implicitDefEqProofs only[go_sem,h]) | (refine zg (fun h=>?_) (fun h=>?_)<;>try simp -implicitDefEqProofs only[go_sem,h]) | (refine zc (fun h=>?_) (fun h=>?_)<;>try simp -implicitDefEqProofs only[go_sem,h])
theorem zye (a b:Int):zh Tryz.prog 125 [.val (.int .i64 a),.val (.int .i64 b)] (fun r=>r = .val (.bool (boundB a b))):=by
 unfold boundB
 refine zf [] Ty.mixed Tryz.func125 rfl (by kernel_rfl) (by simp[Tryz.ntmps125]) ?_; rw[Tryz.ntmps125,Tryz.results125]
 simp -implicitDefEqProofs only[go_sem]
 refine zba (zlq a 0 40) (by simp -implicitDefEqProofs only[go_sem]<;>rfl) (scal rfl) ?_
 simp -implicitDefEqProofs only[go_sem]
 repeat' first | done | (refine zw (fun h=>?_) (fun h=>?_)<;>try simp -implicitDefEqProofs only[go_sem,h]) | (refine zq (fun h=>?_) (fun h=>?_)<;>try simp -implicitDefEqProofs only[go_sem,h]) | (refine zg (fun h=>?_) (fun h=>?_)<;>try simp -implicitDefEqProofs only[go_sem,h]) | (refine zc (fun h=>?_) (fun h=>?_)<;>try simp -implicitDefEqProofs only[go_sem,h])
 all_goals
  refine zba (zlq b a 40) (by simp -implicitDefEqProofs only[go_sem]<;>rfl) (scal rfl) ?_
  simp -implicitDefEqProofs only[go_sem, *]

def letterB (n:Int):Bool:=(decide (97≤n)&&decide (n≤122))||(decide (65≤n)&&decide (n≤90))
def digitB (n:Int):Bool:=decide (48≤n)&&decide (n≤57)
def partB (n:Int):Bool:=(letterB n||digitB n)||decide (n=95)
theorem zv9 (n:Int):zh Tryz.prog 220 [.val (.int .u8 n)] (fun r=>r = .val (.bool (letterB n))):=by
 unfold letterB
 refine zf [] Ty.mixed Tryz.func220 rfl (by kernel_rfl) (by simp[Tryz.ntmps220]) ?_; rw[Tryz.ntmps220,Tryz.results220]
 simp -implicitDefEqProofs only[go_sem]
 repeat' first | done | (refine zw (fun h=>?_) (fun h=>?_)<;>try simp -implicitDefEqProofs only[go_sem,h]) | (refine zq (fun h=>?_) (fun h=>?_)<;>try simp -implicitDefEqProofs only[go_sem,h]) | (refine zg (fun h=>?_) (fun h=>?_)<;>try simp -implicitDefEqProofs only[go_sem,h]) | (refine zc (fun h=>?_) (fun h=>?_)<;>try simp -implicitDefEqProofs only[go_sem,h])
end Go.Proofs.YthjgdkloabgcoaaGreat
