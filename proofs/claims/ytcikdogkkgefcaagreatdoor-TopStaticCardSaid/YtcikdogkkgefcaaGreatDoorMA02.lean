/- What the operations on memory do to what is owned. Regions that draw the order of their operations. Maps: looking up, storing, dropping, over a plain list of entries. -/
import Derived.Maps.AppendAt
import Derived.Test.YtcikdogkkgefcaaGreatDoorMA01
namespace Go.Proofs.YtcikdogkkgefcaaGreatDoor
set_option maxRecDepth 8000
set_option maxHeartbeats 16000000
set_option linter.unusedVariables false
set_option linter.unusedSimpArgs false
open Go Go.RowKit
inductive Rd (ρ:List (Nat × Obj)) (σ:List HP) (b:Nat) (o:Obj):Prop
 | own:Has (Blk b o) σ→Rd ρ σ b o
 | ro:(b,o) ∈ ρ→Rd ρ σ b o
theorem Rd.tail {ρ:List (Nat × Obj)}{σ:List HP}{A:HP}{b:Nat}{o:Obj}(h:Rd ρ σ b o):Rd ρ (A :: σ) b o:=by
 cases h with
 | own h=>exact .own (.tail h)
 | ro h=>exact .ro h
theorem St.rd {we w:World}{ρ:List (Nat × Obj)}{σ:List HP}(h:St we ρ σ w){b:Nat}{o:Obj}(hr:Rd ρ σ b o):w.heap[b]? = some o:=by
 cases hr with
 | own h1=>exact h.lt h1
 | ro h1=>exact h.ro _ h1
theorem zCq {w:World}{b:Nat}{l:List Value}{el:TypeId}{fr:Nat × Nat}(h:w.heap[b]? = some (.cells l.toArray el fr)){off:Nat}{v:Value}(hv:l[off]? = some v):w.cell? ⟨b,off,none⟩=some v:=by
 simp[World.cell?,h,hv]
def one (v:Value):Bool:=match v with | .agg _=>false | .tuple _=>false | _=>true
theorem zIR {v:Value}(h:one v=true):v.oneCell'=true:=by cases v<;>simp_all [one,Value.oneCell']
section
variable {P:Program}{f:FuncId}{n:Nat}{R:Ending→World→Prop}{k:List Item}{e:Env}{ty:TypeId}{x y:Operand}{u v:Value}
variable {we w:World}{ρ:List (Nat × Obj)}{σ σ':List HP}{d:Nat}{pos:String}{aft:Array Edge}{gd:Option (Nat × Bool)}{K:Env→World→Prop}
theorem zB2 {t:TypeId}{p:Addr}(ha:aggB P t=some false)(hc:w.cell? p=some v):(loadVar t p).run P w = .ok v w:=by
 simp[loadVar,zDn ha,hc]
theorem zC8 {t:TypeId}{b off m:Nat}{l:List Value}{el:TypeId}{fr:Nat × Nat}{vs:List Value}(ha:aggB P t=some true)(hs:zDm P t=some m)
 (h:w.heap[b]? = some (.cells l.toArray el fr)) (hv:(l.drop off).take m=vs) (hl:vs.length=m):(loadVar t ⟨b,off,none⟩).run P w = .ok (.agg vs.toArray) w:=by
 have h1:=run_loadCells_list (P:=P) w ⟨b,off,none⟩ vs (fun j u hj=>by
  rw[Addr.add_lit];refine zCq h ?_;rw[← hv,List.getElem?_take]at hj;split at hj
  · simpa using hj
  · cases hj)
 rw[hl]at h1;simp[loadVar,zDn ha,zBZ hs,h1]
theorem Still.load {t:TypeId}{b off:Nat}{l:List Value}{el:TypeId}{fr:Nat × Nat}(hx:ev e x=some (.pointer (some ⟨b,off,none⟩)))(ha:aggB P t=some false)
 (hr:Rd ρ σ b (.cells l.toArray el fr)) (hv:l[off]? = some v):Still P n e (St we ρ σ) (.load t x) ty v:=Still.mk fun a w hok hS _ pos aft g=>by
 have h1:=zB2 (P:=P) ha (zCq (hS.rd hr) hv);simp only[execOp,hok.ev hx,Instr.loadAt,Instr.sureAddr,Sem.run_bind,Sem.run_pure,Result.andThen_ok,h1]
theorem Still.loadAgg {t:TypeId}{b off m:Nat}{l:List Value}{el:TypeId}{fr:Nat × Nat}{vs:List Value}(hx:ev e x=some (.pointer (some ⟨b,off,none⟩)))(ha:aggB P t=some true)(hs:zDm P t=some m)
 (hr:Rd ρ σ b (.cells l.toArray el fr)) (hv:(l.drop off).take m=vs) (hl:vs.length=m):Still P n e (St we ρ σ) (.load t x) ty (.agg vs.toArray):=Still.mk fun a w hok hS _ pos aft g=>by
 have h1:=zC8 (P:=P) ha hs (hS.rd hr) hv hl;simp only[execOp,hok.ev hx,Instr.loadAt,Instr.sureAddr,Sem.run_bind,Sem.run_pure,Result.andThen_ok,h1]
theorem OP.box {t:TypeId}{l:List Value}(hS:St we ρ σ w)(hx:ev e x=some v)(hv:v.cells=l.toArray)(hd:Nat.blt d n=true)
 (hk:∀b w1,St we ρ (Row b l t :: σ) w1→K ((d,pP b)::e) w1):OP P n ⟨some d,.box t x,ty,pos,aft,gd⟩ e w K :=
 OP.put (fun a ha=>by
  simp only[execOp,ha.ev hx,Instr.box,newVar,newRow,Sem.run_bind,Sem.run_pure,Result.andThen_ok,run_newObj,hv,World.alloc_eq]) hd (hk _ _ (hS.alloc _))
theorem OP.alloc {t:TypeId}{z:Value}{l:List Value}(hS:St we ρ σ w)(hz:zGk P t=some z)(hv:z.cells=l.toArray)(hd:Nat.blt d n=true)
 (hk:∀b w1,St we ρ (Row b l t :: σ) w1→K ((d,pP b)::e) w1):OP P n ⟨some d,.alloc t,ty,pos,aft,gd⟩ e w K :=
 OP.put (fun a ha=>by
  simp only[execOp,Instr.alloc,zOS hz,newVar,newRow,Sem.run_bind,Sem.run_pure,Result.andThen_ok,run_newObj,hv,World.alloc_eq]) hd (hk _ _ (hS.alloc _))
theorem OP.makeMap {t:TypeId}(hS:St we ρ σ w)(hd:Nat.blt d n=true)
 (hk:∀b w1,St we ρ (Blk b (.map #[] 0) :: σ) w1→K ((d,.map (some b))::e) w1):OP P n ⟨some d,.makeMap t none,ty,pos,aft,gd⟩ e w K :=
 OP.put (fun a ha=>by
  simp[execOp,Instr.makeMap]) hd (hk _ _ (hS.alloc _))
theorem zFR (b:Nat)(t:TypeId):∀(vs:List Value) (off i:Nat) (l:List Value) (w:World),w.heap[b]? = some (.cells l.toArray t (0,0))→off+i+vs.length≤l.length→(∀v∈vs,one v=true) →
 ∃w',(storeCells ⟨b,off,none⟩ vs i).run P w = .ok () w'∧w'.heap[b]? = some (.cells (l.take (off+i)++vs++l.drop (off+i+vs.length)).toArray t (0,0)) ∧
  (∀k,k≠b→w'.heap[k]? = w.heap[k]?)∧w'.heap.size=w.heap.size∧w'.os=w.os∧w'.tape=w.tape∧w'.output=w.output
 | [],off,i,l,w,h,_,_=>⟨w,rfl,by simpa using h,fun _ _=>rfl,rfl,rfl,rfl,rfl⟩
 | v::vs,off,i,l,w,h,hl,h1=>by
   simp only[List.length_cons]at hl;have hc:w.cell? ⟨b,off+i,none⟩=some (l[off+i]'(by omega)):=zCq h (List.getElem?_eq_getElem (by omega));have hf:w.frozen? ⟨b,off+i,none⟩=false:=by simp[World.frozen?,h]
   have hst:(store ((⟨b,off,none⟩:Addr).add i) v).run P w = .ok () (w.setCell ⟨b,off+i,none⟩ v):=by
    rw[Addr.add_lit,run_store P w _ v _ (zIR (h1 v (by simp))),hc];simp[hf]
   have hb:(w.setCell ⟨b,off+i,none⟩ v).heap[b]? = some (.cells (l.set (off+i) v).toArray t (0,0)):=by
    have hlt:b<w.heap.size:=(Array.getElem?_eq_some_iff.1 h).1;simp only[World.setCell,Array.getElem?_modify,if_true,h,Option.map_some];simp
   obtain⟨w',e1,e2,e3,e4,e5,e6,e7⟩:=zFR b t vs off (i+1) (l.set (off+i) v) _ hb (by simp;omega) (fun u hu=>h1 u (by simp[hu]));refine⟨w',by simp only[storeCells,Sem.run_bind,hst,Result.andThen_ok,e1],?_,fun k hk=>?_,by rw[e4];simp,e5,e6,e7⟩
   · rw[e2]
     congr 3
     simp only[List.length_cons];apply List.ext_getElem?;intro j;simp only[List.getElem?_append,List.length_take,List.length_set,List.length_append,List.length_cons,List.getElem?_take,List.getElem?_drop,List.getElem?_set];by_cases c1:j<off+i
     · have c2:j<off+(i+1):=by omega
       have c3:min (off+i) l.length=off+i:=by omega
       have c4:min (off+(i+1)) l.length=off+(i+1):=by omega
       simp only[c3,c4];rw[if_pos (by omega),if_pos (by omega),if_pos c2,if_neg (by omega),if_pos (by omega),if_pos (by omega),if_pos c1]
     · have c3:min (off+i) l.length=off+i:=by omega
       have c4:min (off+(i+1)) l.length=off+(i+1):=by omega
       simp only[c3,c4];by_cases c5:j=off+i
       · subst c5
         rw[if_pos (by omega),if_pos (by omega),if_pos (by omega),if_pos rfl,if_pos (by omega),if_pos (by omega),if_neg (by omega)];simp
       · by_cases c6:j<off+(i+1)+vs.length
         · rw[if_pos (by omega),if_neg (by omega),if_pos (by omega),if_neg (by omega)]
           rw[show j - (off+i)=(j - (off+(i+1)))+1 by omega,List.getElem?_cons_succ]
         · rw[if_neg (by omega),if_neg (by omega),if_neg (by omega)]
           congr 1
           omega
   · rw[e3 k hk]
     exact Below.heap_setCell _ _ _ _ hk
theorem OP.store {t:TypeId}{b off:Nat}{el:TypeId}{l l' vs:List Value}(hS:St we ρ σ w)(hx:ev e x=some (.pointer (some ⟨b,off,none⟩)))(hy:ev e y=some v)(hv:v.cells=vs.toArray)
 (hs:zDm P t=some vs.length) (h1:vs.all one=true) (hp:Put (Row b l el) (Row b l' el) σ σ') (hl:Nat.ble (off+vs.length) l.length=true) (hl':l.take off++vs++l.drop (off+vs.length)=l')
 (hk:∀w1,St we ρ σ' w1→K e w1):OP P n ⟨none,.store t x y,ty,pos,aft,gd⟩ e w K:=by
 subst hl';have hb:=hS.lt hp.has;obtain⟨w',e1,e2,e3,e4,e5,e6,e7⟩:=zFR (P:=P) b el vs off 0 l w hb (by simpa using hl) (by simpa using h1);refine OP.act (w':=w') (fun a ha=>?_) (hk w' (hS.write hp e5 e6 e7 e4 (by simpa using e2) e3));simp only[execOp,ha.ev hx,ha.ev hy,Instr.storeAt,Instr.sureAddr,Sem.run_bind,Sem.run_pure,Result.andThen_ok,storeVar,zBZ hs,hv,List.size_toArray];simp[e1]
def zER (e:Env):List (Nat × Operand)→Option (List (Nat × Value))
 | []=>some []
 | (i,o)::l=>match ev e o,zER e l with
   | some v,some r=>some ((i,v)::r)
   | _,_=>none
theorem zFp {a:Act}(ha:Ok n e a):∀{l:List (Nat × Operand)} {r:List (Nat × Value)},zER e l=some r→l.map (fun(i,o)=>(i,a.eval o))=r
 | [],r,h=>by simp[zER]at h;simp[h]
 | (i,o)::l,r,h=>by
   simp only[zER]at h;cases ho:ev e o with
   | none=>simp[ho]at h
   | some v =>
     cases hl:zER e l with
     | none=>simp[ho,hl]at h
     | some r'=>simp[ho,hl]at h;subst h;simp[ha.ev ho,zFp ha hl]
def zHv (P:Program)(t:TypeId)(len:Nat)(vs:List (Nat × Value)):Option (Array Value) :=
 match P.info? t with
 | some i=>match i.zero with
   | some z=>if len*i.size>2 ^ 24 then none else Instr.fill (fun j=>some (j*i.size,i.size)) ((List.range (len*i.size)).map fun j=>z.cells[j % z.cells.size]!).toArray vs
   | none=>none
 | none=>none
theorem zJC {t el:TypeId}{len:Nat}{vs:List (Nat × Value)}{l:List Value}(ht:zEv P t=some el)(hb:zHv P el len vs=some l.toArray)(w:World) :
 (Instr.buildSlice t len vs.toArray).run P w = .ok (.slice (some ⟨w.heap.size,0,none⟩) len len) (w.alloc (.cells l.toArray el)):=by
 unfold zHv at hb;have hrange:∀(m:Nat) (z:Array Value),((List.range m).map fun j=>z[j % z.size]!).toArray=(Array.range m).map (z[· % z.size]!):=fun m z=>by
  apply Array.ext';simp
 simp only[hrange]at hb;cases hi:P.info? el with
 | none=>simp[hi]at hb
 | some i =>
   cases hz:i.zero with
   | none=>simp[hi,hz]at hb
   | some z =>
     simp only[hi,hz]at hb;split at hb
     · cases hb
     · rename_i h24
       by_cases h0:len*i.size=0
       · rw[h0]at hb
         have hr:∀g:Nat→Value,Array.map g (Array.range 0) = #[]:=fun g=>by rw[Array.range_zero'];exact Array.map_empty
         rw[hr]at hb;simp only[Instr.buildSlice,run_underlying (zBi ht),sizeOf,typeInfo,hi,Sem.run_bind,Sem.run_pure,Result.andThen_ok,run_program,Sem.run_ite,h0,if_true,newRow,hr,hb];simp
       · have hb':Instr.fill (fun i_1=>some (i_1*i.size,i.size)) (Array.map (fun x=>z.cells[x % z.cells.size]!) (Array.range (len*i.size))) vs=some l.toArray:=hb
         have h3:¬(2 ^ 24<len*i.size):=h24;simp only[Instr.buildSlice,run_underlying (zBi ht),sizeOf,typeInfo,hi,Sem.run_bind,Sem.run_pure,Result.andThen_ok,run_program,Sem.run_ite,zeroValue,hz,h0,if_false,h24,newRow,run_newObj,hb',World.alloc_eq]
def zGB (size:Nat):Nat→List (Nat × Value)→Option (List Value)
 | _,[]=>some []
 | k,(j,v)::r=>bif Nat.beq j k && Nat.beq v.cells.size size then
    match zGB size (k+1) r with
    | some l=>some (v.cells.toList++l)
    | none=>none
   else none
theorem zPG (l vs:List Value)(v:Value)(off:Nat)(h:off+(vs.length+1)≤l.length) :
 (l.set off v).take (off+1)++vs++(l.set off v).drop (off+1+vs.length)=l.take off++(v::vs)++l.drop (off+(vs.length+1)):=by
 apply List.ext_getElem?;intro j;simp only[List.getElem?_append,List.length_take,List.length_set,List.length_append,List.length_cons,List.getElem?_take,List.getElem?_drop,List.getElem?_set];have c3:min off l.length=off:=by omega
 have c4:min (off+1) l.length=off+1:=by omega
 simp only[c3,c4];by_cases c1:j<off
 · rw[if_pos (by omega),if_pos (by omega),if_pos (by omega),if_neg (by omega),if_pos (by omega),if_pos c1,if_pos c1]
 · by_cases c5:j=off
   · subst c5
     rw[if_pos (by omega),if_pos (by omega),if_pos (by omega),if_pos rfl,if_pos (by omega),if_pos (by omega),if_neg (by omega)];simp
   · by_cases c6:j<off+(vs.length+1)
     · rw[if_pos (by omega),if_neg (by omega),if_pos (by omega),if_neg (by omega)]
       rw[show j - off=(j - (off+1))+1 by omega,List.getElem?_cons_succ]
     · rw[if_neg (by omega),if_neg (by omega),if_neg (by omega)]
       congr 1
       omega
theorem zEs:∀(vs:List Value) (off i:Nat) (l:List Value),off+i+vs.length≤l.length →
 (vs.zipIdx i).foldl (fun(cs:Array Value) (x:Value × Nat)=>cs.setIfInBounds (off+x.2) x.1) l.toArray=(l.take (off+i)++vs++l.drop (off+i+vs.length)).toArray
 | [],off,i,l,_=>by simp
 | v::vs,off,i,l,h=>by
   simp only[List.length_cons]at h;simp only[List.zipIdx_cons,List.foldl_cons,List.setIfInBounds_toArray];rw[zEs vs off (i+1) (l.set (off+i) v) (by simp;omega)];have:=zPG l vs v (off+i) (by omega);rw[show off+(i+1)=off+i+1 by omega,this,List.length_cons]
theorem zOs (size:Nat):∀(vs:List (Nat × Value)) (k:Nat) (cells l:List Value),zGB size k vs=some l→(k+vs.length)*size≤cells.length →
 Instr.fill (fun j=>some (j*size,size)) cells.toArray vs=some (cells.take (k*size)++l++cells.drop ((k+vs.length)*size)).toArray
 | [],k,cells,l,h,_=>by simp[zGB]at h;subst h;simp[Instr.fill]
 | (j,v)::r,k,cells,l,h,hl=>by
   simp only[zGB]at h;cases hb:Nat.beq j k && Nat.beq v.cells.size size with
   | false=>rw[hb]at h;simp at h
   | true =>
     rw[hb]at h;simp only[cond_true,Bool.and_eq_true]at h hb;have hj:j=k:=Nat.eq_of_beq_eq_true hb.1;have hs:v.cells.size=size:=Nat.eq_of_beq_eq_true hb.2;subst hj;cases hr:zGB size (j+1) r with
     | none=>rw[hr]at h;cases h
     | some l2 =>
       rw[hr]at h;simp only[Option.some.injEq]at h;subst h;simp only[List.length_cons]at hl;have hm:(j+(r.length+1))*size=j*size+size+r.length*size:=by rw[Nat.add_mul,Nat.add_mul];omega
       have hle:j*size+size≤cells.length:=by rw[hm]at hl;omega
       have hcond:¬((v.cells.size≠size || decide (j*size+v.cells.size>cells.toArray.size))=true):=by
        simp[hs];omega
       have h1:=zEs v.cells.toList (j*size) 0 cells (by simp[hs];omega);have h1':v.cells.zipIdx.foldl (fun(cs:Array Value) (x:Value × Nat)=>cs.setIfInBounds (j*size+x.2) x.1) cells.toArray=(cells.take (j*size)++v.cells.toList++cells.drop (j*size+size)).toArray:=by
        rw[← Array.foldl_toList,Array.toList_zipIdx];simpa[hs]using h1
       have hlen:(cells.take (j*size)++v.cells.toList++cells.drop (j*size+size)).length=cells.length:=by simp[hs];omega
       have h2:=zOs size r (j+1) (cells.take (j*size)++v.cells.toList++cells.drop (j*size+size)) l2 hr (by rw[hlen];rw[show j+1+r.length=j+(r.length+1) by omega];exact hl);have h3:Instr.fill (fun j=>some (j*size,size)) cells.toArray ((j,v)::r)=Instr.fill (fun j=>some (j*size,size)) (v.cells.zipIdx.foldl (fun(cs:Array Value) (x:Value × Nat)=>cs.setIfInBounds (j*size+x.2) x.1) cells.toArray) r:=by
        rw[Instr.fill];simp only;rw[if_neg hcond]
       rw[h3,h1',h2];congr 2
       have e1:(j+1)*size=j*size+size:=by rw[Nat.add_mul];omega
       have e2:(j+1+r.length)*size=j*size+size+r.length*size:=by rw[Nat.add_mul,Nat.add_mul];omega
       rw[e1,e2,List.length_cons,hm];have e3:(cells.take (j*size)++v.cells.toList++cells.drop (j*size+size)).take (j*size+size)=cells.take (j*size)++v.cells.toList:=by
        rw[List.take_append_of_le_length (by simp[hs];omega)];apply List.take_of_length_le;simp[hs];omega
       have e4:(cells.take (j*size)++v.cells.toList++cells.drop (j*size+size)).drop (j*size+size+r.length*size)=cells.drop (j*size+size+r.length*size):=by
        rw[List.drop_append];have:(cells.take (j*size)++v.cells.toList).length=j*size+size:=by simp[hs];omega
        rw[this,List.drop_eq_nil_of_le (by rw[this];omega),List.nil_append,List.drop_drop];congr 1
        omega
       rw[e3,e4];simp
theorem zMZ {el len m:Nat}{vs:List (Nat × Value)}{l:List Value}{z:Value}(hs:zDm P el=some m)(hz:zGk P el=some z)(hn:vs.length=len)(h24:Nat.ble (len*m) 16777216=true)(h:zGB m 0 vs=some l):zHv P el len vs=some l.toArray:=by
 unfold zDm at hs;unfold zGk at hz;cases hi:P.info? el with
 | none=>simp[hi]at hs
 | some i =>
   simp[hi]at hs hz;subst hn;subst hs;simp only[zHv,hi,hz];rw[if_neg (by simp at h24;omega)];have:=zOs i.size vs 0 ((List.range (vs.length*i.size)).map fun j=>z.cells[j % z.cells.size]!) l h (by simp);rw[this];simp
def zEV:List Value→Nat→List Value→Option (List Value)
 | l,0,[]=>some l
 | [],0,_::_=>none
 | _::l,0,v::vs=>match zEV l 0 vs with
   | some r=>some (v::r)
   | none=>none
 | [],_+1,_=>none
 | c::l,off+1,vs=>match zEV l off vs with
   | some r=>some (c::r)
   | none=>none
theorem zFY:∀(l:List Value) (off:Nat) (vs r:List Value),zEV l off vs=some r→off+vs.length≤l.length∧r=l.take off++vs++l.drop (off+vs.length)
 | l,0,[],r,h=>by simp[zEV]at h;subst h;simp
 | [],0,_::_,r,h=>by simp[zEV]at h
 | c::l,0,v::vs,r,h=>by
   simp only[zEV]at h;cases hs:zEV l 0 vs with
   | none=>simp[hs]at h
   | some r' =>
     simp[hs]at h;subst h;obtain⟨h1,h2⟩:=zFY l 0 vs r' hs;refine⟨by simp at h1 ⊢;omega,?_⟩;rw[h2];simp
 | [],_+1,_,r,h=>by simp[zEV]at h
 | c::l,off+1,vs,r,h=>by
   simp only[zEV]at h;cases hs:zEV l off vs with
   | none=>simp[hs]at h
   | some r' =>
     simp[hs]at h;subst h;obtain⟨h1,h2⟩:=zFY l off vs r' hs;refine⟨by simp;omega,?_⟩;rw[h2];simp[show off+1+vs.length=off+vs.length+1 by omega]
def zQC (place:Nat→Option (Nat × Nat)):List Value→List (Nat × Value)→Option (List Value)
 | l,[]=>some l
 | l,(i,v)::r=>match place i with
   | none=>none
   | some (off,size)=>bif Nat.beq v.cells.size size then
      match zEV l off v.cells.toList with
      | some l'=>zQC place l' r
      | none=>none
     else none
theorem zG7 (place:Nat→Option (Nat × Nat)):∀(vs:List (Nat × Value)) (l r:List Value),zQC place l vs=some r→Instr.fill place l.toArray vs=some r.toArray
 | [],l,r,h=>by simp[zQC]at h;subst h;simp[Instr.fill]
 | (i,v)::vs,l,r,h=>by
   simp only[zQC]at h;cases hp:place i with
   | none=>simp[hp]at h
   | some x =>
     obtain⟨off,size⟩:=x;simp only[hp]at h;cases hb:Nat.beq v.cells.size size with
     | false=>simp[hb]at h
     | true =>
       rw[hb]at h;simp only[cond_true]at h;have hsz:v.cells.size=size:=Nat.eq_of_beq_eq_true hb;cases hs:zEV l off v.cells.toList with
       | none=>simp[hs]at h
       | some l' =>
         simp only[hs]at h;obtain⟨h1,h2⟩:=zFY l off v.cells.toList l' hs;have h3:=zEs v.cells.toList off 0 l (by simpa using h1);have h4:v.cells.zipIdx.foldl (fun(cs:Array Value) (x:Value × Nat)=>cs.setIfInBounds (off+x.2) x.1) l.toArray=l'.toArray:=by
          rw[← Array.foldl_toList,Array.toList_zipIdx,h2];simpa using h3
         rw[Instr.fill];simp only[hp];rw[if_neg (by simp at h1;simp[hsz];omega)];have h5:=zG7 place vs l' r h;rw[← h4]at h5;exact h5
def zGu (P:Program)(fs:List Field)(i:Nat):Option (Nat × Nat) :=
 match fs[i]? with
 | some f=>match P.info? f.type with
   | some inf=>some (f.offset,inf.size)
   | none=>none
 | none=>none
def zSq (P:Program)(t:TypeId)(vs:List (Nat × Value)):Option (List Value) :=
 match P.info? t,P.underlying t with
 | some it,some (.array _ e)=>match it.zero,P.info? e with
   | some z,some ie=>zQC (fun i=>some (i*ie.size,ie.size)) z.cells.toList vs
   | _,_=>none
 | some it,some (.struct fs)=>match it.zero with
   | some z=>if fs.toList.all (fun f=>(P.info? f.type).isSome)=true then zQC (zGu P fs.toList) z.cells.toList vs else none
   | none=>none
 | _,_=>none
theorem zOA {t:TypeId}{vs:List (Nat × Value)}{l:List Value}(h:zSq P t vs=some l):P.built t vs=some l.toArray:=by
 unfold zSq at h;unfold Program.built;cases hi:P.info? t with
 | none=>simp[hi]at h
 | some it =>
   cases hu:P.underlying t with
   | none=>simp[hi,hu]at h
   | some d =>
     cases d<;>simp only[hi,hu]at h ⊢ <;> try(cases h;done)
     case array len e =>
      cases hz:it.zero with
      | none=>simp[hz]at h
      | some z =>
        cases hie:P.info? e with
        | none=>simp[hz,hie]at h
        | some ie =>
          simp only[hz,hie]at h ⊢;have:=zG7 _ vs _ _ h;simpa using this
     case struct fs =>
      cases hz:it.zero with
      | none=>simp[hz]at h
      | some z =>
        simp only[hz]at h ⊢;split at h
        · rename_i hall
          have key:∀(l:List Field),l.all (fun f=>(P.info? f.type).isSome)=true→∃places,l.mapM (fun f=>(P.info? f.type).map fun i=>(f.offset,i.size))=some places∧∀i,places[i]? = zGu P l i:=by
           intro l;induction l with
           | nil=>intro _;exact⟨[],by simp,by simp[zGu]⟩
           | cons f l ih =>
             intro hl;simp only[List.all_cons,Bool.and_eq_true]at hl;obtain⟨places,h1,h2⟩:=ih hl.2;obtain⟨inf,hinf⟩:=Option.isSome_iff_exists.1 hl.1;refine⟨(f.offset,inf.size)::places,by simp[List.mapM_cons,hinf,h1],fun i=>?_⟩;cases i with
             | zero=>simp[zGu,hinf]
             | succ i=>simpa[zGu]using h2 i
          obtain⟨places,h1,h2⟩:=key _ hall;rw[h1];simp only;have h3:=zG7 _ vs _ _ h;have h4:(fun x=>places.toArray[x]?)=zGu P fs.toList:=by funext x;simpa using h2 x
          rw[h4];simpa using h3
        · cases h
theorem Still.build {t:TypeId}{parts:List (Nat × Operand)}{vs:List (Nat × Value)}{l:List Value}{S:World→Prop}(hx:zER e parts=some vs)(hb:zSq P t vs=some l) :
 Still P n e S (.build t parts.toArray) ty (.agg l.toArray):=Still.mk fun a w ha _ d pos aft g=>by
 have h1:=run_build (P:=P) w t vs.toArray l.toArray (by simpa using zOA hb);have h2:(parts.toArray.map fun(i,x)=>(i,a.eval x))=vs.toArray:=by rw[← zFp ha hx];simp
 simp only[execOp,h2,Sem.run_bind,h1,Result.andThen_ok,Sem.run_pure]
theorem OP.buildSlice {t el m:TypeId}{len:Nat}{parts:List (Nat × Operand)}{vs:List (Nat × Value)}{l:List Value}{z:Value}(hS:St we ρ σ w)(ht:zEv P t=some el)(hx:zER e parts=some vs)(hsz:zDm P el=some m)(hz:zGk P el=some z)(hn:vs.length=len)(h24:Nat.ble (len*m) 16777216=true)(hb:zGB m 0 vs=some l)(hd:Nat.blt d n=true)
 (hk:∀b w1,St we ρ (Row b l el :: σ) w1→K ((d,.slice (some ⟨b,0,none⟩) len len)::e) w1):OP P n ⟨some d,.buildSlice t len parts.toArray,ty,pos,aft,gd⟩ e w K :=
 OP.put (fun a ha=>by
  have h2:(parts.toArray.map fun(i,x)=>(i,a.eval x))=vs.toArray:=by rw[← zFp ha hx];simp
  simp only[execOp,h2,Sem.run_bind,zJC ht (zMZ hsz hz hn h24 hb) w,Result.andThen_ok,Sem.run_pure]) hd (hk _ _ (hS.alloc _))
theorem Still.indexAddr {t el:TypeId}{b off len cap m:Nat}{q:IntKind}{i:Int}{S:World→Prop}(hx:ev e x=some (.slice (some ⟨b,off,none⟩) len cap))(hy:ev e y=some (.int q i))(ht:zEv P t=some el)(hs:zDm P el=some m)
 (h0:0≤i) (h1:i<len) {o:Nat} (ho:off+i.toNat*m=o):Still P n e S (.indexAddr t x y) ty (.pointer (some ⟨b,o,none⟩)):=Still.mk fun a w ha _ d pos aft g=>by
 subst ho;simp only[execOp,ha.ev hx,ha.ev hy,Instr.indexAt,asIntOf,Sem.run_bind,Sem.run_pure,Result.andThen_ok,run_underlying (zBi ht)];simp[h0,h1,zBZ hs,Addr.add_lit]
theorem Still.index {t el:TypeId}{len m o:Nat}{q:IntKind}{i:Int}{cs:List Value}{S:World→Prop}(hx:ev e x=some (.agg cs.toArray))(hy:ev e y=some (.int q i))(ht:P.underlying t=some (.array len el))(ha:aggB P el=some false)(hs:zDm P el=some m)
 (h0:0≤i) (h1:i<len) (ho:0+i.toNat*m=o) (hv:cs[o]? = some v):Still P n e S (.index t x y) ty v:=Still.mk fun a w hok _ d pos aft g=>by
 simp only[Nat.zero_add]at ho;subst ho;simp only[execOp,hok.ev hx,hok.ev hy,Instr.index,asIntOf,Sem.run_bind,Sem.run_pure,Result.andThen_ok,run_underlying ht];simp[h0,h1,zBZ hs,part,zDn ha,hv]
theorem Still.lenSlice {t el ty':TypeId}{p:Option Addr}{len cap:Nat}{S:World→Prop}(hx:ev e x=some (.slice p len cap))(ht:zEv P t=some el) :
 Still P n e S (.call { callee:=.builtin .len,args := #[x],argTypes := #[t] }) ty' (pI len):=Still.mk fun a w ha _ d pos aft g=>by
 simp[execOp,resolve,invoke,builtin,ha.ev hx,Builtin.len_,run_underlying (zBi ht),goInt]
theorem Still.lenString {t ty':TypeId}{s:ByteArray}{S:World→Prop}(hx:ev e x=some (.string s))(ht:P.underlying t=some .string) :
 Still P n e S (.call { callee:=.builtin .len,args := #[x],argTypes := #[t] }) ty' (pI s.size):=Still.mk fun a w ha _ d pos aft g=>by
 simp[execOp,resolve,invoke,builtin,ha.ev hx,Builtin.len_,run_underlying ht,goInt]
def fnB (P:Program)(g:FuncId):Bool :=
 match P.funcs[g]? with
 | some fn => fn.body.isSome && !(fn.name == "runtime.NumGoroutine")
 | none=>false
theorem zHI {g:FuncId}(h:fnB P g=true)(args:Array Value)(w:World):(callFunc g args).run P w = .ok (.enter g args) w:=by
 unfold fnB at h;cases hf:P.funcs[g]? with
 | none=>simp[hf]at h
 | some fn =>
   simp only[hf,Bool.and_eq_true,Bool.not_eq_true']at h;obtain⟨h1,h2⟩:=h;have h3:fn.body.isNone=false:=by cases hb:fn.body<;>simp_all
   simp only[callFunc,Sem.run_bind,run_program,Result.andThen_ok,hf,h2,h3];simp
theorem zJ3 {g:FuncId}{args:List Operand}{ts:Array TypeId}{vs:List Value}(h:fnB P g=true)(hx:evs e args=some vs){w:World} :
 ∀a,Ok n e a→∀dst pos aft gd,(execOp a.eval ⟨dst,.call { callee:=.value (.func g),args:=args.toArray,argTypes:=ts },ty,pos,aft,gd⟩).run P w = .ok (.enter g vs.toArray) w:=fun a ha dst pos aft gd=>by
 have h2:=zK4 ha hx;have h3:a.eval (.func g) = .func (.func g) #[] #[]:=rfl;simp only[execOp,resolve,h3,Deferred.ofValue,Sem.run_bind,Sem.run_pure,Result.andThen_ok,invoke,h2];simpa using zHI h vs.toArray w
theorem zN0 {g:FuncId}{fv:Operand}{args:List Operand}{ts:Array TypeId}{vs first cap:List Value}(h:fnB P g=true)(hf:ev e fv=some (.func (.func g) first.toArray cap.toArray))(hx:evs e args=some vs){w:World} :
 ∀a,Ok n e a→∀dst pos aft gd,(execOp a.eval ⟨dst,.call { callee:=.value fv,args:=args.toArray,argTypes:=ts },ty,pos,aft,gd⟩).run P w = .ok (.enter g (first++vs++cap).toArray) w:=fun a ha dst pos aft gd=>by
 have h2:=zK4 ha hx;simp only[execOp,resolve,ha.ev hf,Deferred.ofValue,Sem.run_bind,Sem.run_pure,Result.andThen_ok,invoke,h2];simpa using zHI h (first++vs++cap).toArray w
theorem OP.callF {g:FuncId}{args:List Operand}{ts:Array TypeId}{vs:List Value}{Φ:Value→World→Prop}(h:fnB P g=true)(hx:evs e args=some vs)(hd:Nat.blt d n=true)
 (hc:Cl P g vs w Φ) (hk:∀v w',Φ v w'→K ((d,v)::e) w') :
 OP P n ⟨some d,.call { callee:=.value (.func g),args:=args.toArray,argTypes:=ts },ty,pos,aft,gd⟩ e w K :=
 OP.call (fun a ha=>zJ3 h hx a ha _ _ _ _) hd hc hk
theorem OP.callV {g:FuncId}{fv:Operand}{args:List Operand}{ts:Array TypeId}{vs first cap:List Value}{Φ:Value→World→Prop}(hf:ev e fv=some (.func (.func g) first.toArray cap.toArray))(h:fnB P g=true)(hx:evs e args=some vs)(hd:Nat.blt d n=true)
 (hc:Cl P g (first++vs++cap) w Φ) (hk:∀v w',Φ v w'→K ((d,v)::e) w') :
 OP P n ⟨some d,.call { callee:=.value fv,args:=args.toArray,argTypes:=ts },ty,pos,aft,gd⟩ e w K :=
 OP.call (fun a ha=>zN0 h hf hx a ha _ _ _ _) hd hc hk
end
structure RQ (P:Program)(f:FuncId)(n:Nat)(R:Ending→World→Prop)(k:List Item)(C:World→Prop)(ops rest:List Oper)(e:Env):Prop where
 go:∀a,Ok n e a→wpQuiet P ops.toArray C (fun a'=>∀w',C w'→Ends P f R k a' w') rest a
def QE (n:Nat)(K:Env→World→Prop):Exit→Act→World→Prop
 | .normal,a,w=>∃e,Ok n e a∧K e w
 | _,_,_=>False
structure RH (P:Program)(n:Nat)(K:Env→World→Prop)(S:World→Prop)(ops:List Oper)(fuel:Nat)(listed:Array Bool)(e:Env)(w:World):Prop where
 go:∀a,Ok n e a→wpAnyH P .any ops.toArray (QE n K) S fuel listed a w
structure RI (P:Program)(n:Nat)(K:Env→World→Prop)(S:World→Prop)(ops:List Oper)(fuel:Nat)(listed:Array Bool)(i:Nat)(e:Env)(w:World):Prop where
 go:∀a,Ok n e a→wpOp P ops.toArray (QE n K) i (fun a' w'=>S w'∧wpAnyH P .any ops.toArray (QE n K) S fuel (listed.setIfInBounds i true) a' w') a w
def zFK (ops:List Oper)(listed:Array Bool)(i:Nat):Bool :=
 Region.noSelect ops.toArray && Region.free .any ops.toArray listed i && (Region.ready .any ops.toArray listed).contains i
section
variable {P:Program}{f:FuncId}{n:Nat}{R:Ending→World→Prop}{k:List Item}{e:Env}{w:World}{C S:World→Prop}{ops rest:List Oper}{K:Env→World→Prop}
theorem Run.regionQ {id:Nat}{l:List Oper}(hm:P.follows .mixedOrders=true)(hB:Region.lexB .any l.toArray=true)(hC:C w.drew)(h:RQ P f n R k C l l e):Run P f n R (.code (.region id l.toArray true)::k) e w :=
 ⟨fun a ha=>Ends.of_wp (wp_region_quiet (C:=C) hm hB hC (by
  have:=h.go a ha;simp only[List.toList_toArray];exact this))⟩
theorem RQ.nil (h:∀w,C w→Run P f n R k e w):RQ P f n R k C ops [] e:=⟨fun a ha=>wpQuiet_nil (fun w' hw'=>(h w' hw').go a ha)⟩
theorem RQ.op {d:Nat}{op:Op}{ty:TypeId}{pos:String}{aft:Array Edge}{v:Value}(h:∀a,Ok n e a→∀w,C w→(⟨some d,op,ty,pos,aft,none⟩:Oper).quietAt P a C w v)(hd:Nat.blt d n=true)
 (hk:RQ P f n R k C ops rest ((d,v)::e)):RQ P f n R k C ops (⟨some d,op,ty,pos,aft,none⟩::rest) e:=by
 refine⟨fun a ha=>wpQuiet_step fun K hK=>?_⟩;simp only[Region.wanted,if_true];exact⟨v,h a ha,hK _ (hk.go _ (ha.put hd v))⟩
theorem RQ.still {d:Nat}{op:Op}{ty:TypeId}{pos:String}{aft:Array Edge}{v:Value}(h:Still P n e C op ty v)(hd:Nat.blt d n=true)
 (hk:RQ P f n R k C ops rest ((d,v)::e)):RQ P f n R k C ops (⟨some d,op,ty,pos,aft,none⟩::rest) e :=
 RQ.op (fun a ha w hw=>by unfold Oper.quietAt;rw[h.go a w ha hw];exact⟨rfl,rfl⟩) hd hk
theorem RQ.call {d:Nat}{op:Op}{ty:TypeId}{pos:String}{aft:Array Edge}{v:Value}{g:FuncId}{args:List Value}
 (h:∀w a,Ok n e a→(execOp a.eval ⟨some d,op,ty,pos,aft,none⟩).run P w = .ok (.enter g args.toArray) w) (hd:Nat.blt d n=true)
 (hc:∀w,C w→Cl P g args w fun u w'=>u=v∧C w') (hk:RQ P f n R k C ops rest ((d,v)::e)):RQ P f n R k C ops (⟨some d,op,ty,pos,aft,none⟩::rest) e :=
 RQ.op (fun a ha w hw=>by
  unfold Oper.quietAt;rw[h w a ha];refine⟨rfl,(hc w hw).go.mono fun en w' hr=>?_⟩;cases en with
  | returned u=>exact⟨by rw[hr.1],hr.2⟩
  | panicked ch=>exact hr.elim
  | outgrown=>exact hr.elim) hd hk
theorem RQ.callF {d:Nat}{ty:TypeId}{pos:String}{aft:Array Edge}{v:Value}{g:FuncId}{args:List Operand}{ts:Array TypeId}{vs:List Value}(h:fnB P g=true)(hx:evs e args=some vs)(hd:Nat.blt d n=true)
 (hc:∀w,C w→Cl P g vs w fun u w'=>u=v∧C w') (hk:RQ P f n R k C ops rest ((d,v)::e)) :
 RQ P f n R k C ops (⟨some d,.call { callee:=.value (.func g),args:=args.toArray,argTypes:=ts },ty,pos,aft,none⟩::rest) e :=
 RQ.call (fun w a ha=>zJ3 h hx a ha _ _ _ _) hd hc hk
theorem RQ.yes {dst:Option Nat}{op:Op}{ty:TypeId}{pos:String}{aft:Array Edge}{j t:Nat}{b:Bool}
 (hj:((ops[j]?).bind (·.dst))=some t) (ht:e.get t=some (.bool b))
 (hk:RQ P f n R k C ops (⟨dst,op,ty,pos,aft,none⟩::rest) e):RQ P f n R k C ops (⟨dst,op,ty,pos,aft,some (j,b)⟩::rest) e:=by
 refine⟨fun a ha=>?_⟩;have h1:=hk.go a ha;have hw:Region.wanted ⟨dst,op,ty,pos,aft,some (j,b)⟩ (yielded ops.toArray a.tmps)=true:=by simp[Region.wanted,zDM ha hj ht]
 unfold wpQuiet at h1 ⊢;rw[if_pos hw];rw[if_pos (by simp[Region.wanted])]at h1;exact h1
theorem RQ.skip {d:Nat}{op:Op}{ty:TypeId}{pos:String}{aft:Array Edge}{g:Option (Nat × Bool)}(hw:∀a,Ok n e a→Region.wanted ⟨some d,op,ty,pos,aft,g⟩ (yielded ops.toArray a.tmps)=false)(hd:Nat.blt d n=true)
 (hk:RQ P f n R k C ops rest ((d,undef)::e)):RQ P f n R k C ops (⟨some d,op,ty,pos,aft,g⟩::rest) e:=by
 refine⟨fun a ha=>?_⟩;unfold wpQuiet;rw[if_neg (by simp[hw a ha])];exact hk.go _ (ha.put hd undef)
theorem RQ.no {d:Nat}{op:Op}{ty:TypeId}{pos:String}{aft:Array Edge}{j t:Nat}{b c:Bool}
 (hj:((ops[j]?).bind (·.dst))=some t) (ht:e.get t=some (.bool c)) (hd:Nat.blt d n=true) (hne:(c == b)=false)
 (hk:RQ P f n R k C ops rest ((d,undef)::e)):RQ P f n R k C ops (⟨some d,op,ty,pos,aft,some (j,b)⟩::rest) e :=
 RQ.skip (fun a ha=>by simp[Region.wanted,zDM ha hj ht,hne]) hd hk
theorem RQ.noUndef {d:Nat}{op:Op}{ty:TypeId}{pos:String}{aft:Array Edge}{j t:Nat}{b:Bool}
 (hj:((ops[j]?).bind (·.dst))=some t) (ht:e.get t=some undef) (hd:Nat.blt d n=true)
 (hk:RQ P f n R k C ops rest ((d,undef)::e)):RQ P f n R k C ops (⟨some d,op,ty,pos,aft,some (j,b)⟩::rest) e :=
 RQ.skip (fun a ha=>by simp[Region.wanted,zE3 ha hj ht]) hd hk
theorem RQ.split {d:Nat}{p:Prop}[Decidable p](h1:p→RQ P f n R k C ops rest ((d,.bool true)::e))(h2:¬p→RQ P f n R k C ops rest ((d,.bool false)::e)) :
 RQ P f n R k C ops rest ((d,.bool (decide p))::e):=by
 by_cases h:p
 · rw[decide_eq_true h];exact h1 h
 · rw[decide_eq_false h];exact h2 h
theorem RQ.splitB {d:Nat}{b:Bool}(h1:b=true→RQ P f n R k C ops rest ((d,.bool true)::e))(h2:b=false→RQ P f n R k C ops rest ((d,.bool false)::e)) :
 RQ P f n R k C ops rest ((d,.bool b)::e):=by
 cases b
 · exact h2 rfl
 · exact h1 rfl
theorem Run.regionH {id m:Nat}{l:List Oper}{listed:Array Bool}(S:World→Prop)(K:Env→World→Prop)(hK:∀e w,K e w→Run P f n R k e w)(hm:P.follows .mixedOrders=true)(hl:l.length=m)(hr:Array.replicate m false=listed)(h:RH P n K S l m listed e w.drew) :
 Run P f n R (.code (.region id l.toArray true)::k) e w:=by
 subst hl;subst hr;refine⟨fun a ha=>Ends.of_wp (Code.wp_mono ?_ (wp_region_held hm (by simpa using h.go a ha)))⟩;intro ex a' w' hq;cases ex with
 | normal=>obtain⟨e',hok,hk⟩:=hq;exact(hK e' w' hk).go a' hok
 | _=>exact hq.elim
theorem RH.done {fuel:Nat}{listed:Array Bool}(hr:Region.ready .any ops.toArray listed=[])(h:K e w):RH P n K S ops fuel listed e w :=
 ⟨fun a ha=>wpAnyH_done hr ⟨e,ha,h⟩ fuel⟩
theorem RH.first {fuel i:Nat}{listed listed':Array Bool}{o:Oper}{d:Nat}{v:Value}(hi:ops[i]? = some o)(hdst:o.dst=some d)(hb:zFK ops listed i=true)(hl:listed.setIfInBounds i true=listed')
 (hy:∀a,Ok n e a→YieldsIf P ops.toArray S o v a) (hS:S w) (hd:Nat.blt d n=true) (hk:RH P n K S ops fuel listed' ((d,v)::e) w):RH P n K S ops (fuel+1) listed e w:=by
 subst hl;simp only[zFK,Bool.and_eq_true]at hb;refine⟨fun a ha=>wpAnyH_take (i:=i) (oi:=o) (v:=v) (by simpa using hi) hb.1.1 hb.1.2 hb.2 (fun _ _ _ h=>h.elim) (hy a ha) hS ?_⟩;rw[hdst];exact hk.go _ (ha.put hd v)
theorem RH.take {fuel i:Nat}{listed listed':Array Bool}{d:Nat}{op:Op}{ty:TypeId}{pos:String}{aft:Array Edge}{v:Value}(hi:ops[i]? = some ⟨some d,op,ty,pos,aft,none⟩)(hb:zFK ops listed i=true)(hl:listed.setIfInBounds i true=listed')
 (h:Still P n e S op ty v) (hS:S w) (hd:Nat.blt d n=true) (hk:RH P n K S ops fuel listed' ((d,v)::e) w):RH P n K S ops (fuel+1) listed e w :=
 RH.first hi rfl hb hl (fun a ha=>.inl ⟨by simp[Region.wanted],fun w hw=>h.go a w ha hw _ _ _ _⟩) hS hd hk
theorem RH.takeYes {fuel i:Nat}{listed listed':Array Bool}{d:Nat}{op:Op}{ty:TypeId}{pos:String}{aft:Array Edge}{v:Value}{j t:Nat}{b:Bool}(hi:ops[i]? = some ⟨some d,op,ty,pos,aft,some (j,b)⟩)
 (hj:((ops[j]?).bind (·.dst))=some t) (ht:e.get t=some (.bool b)) (hb:zFK ops listed i=true) (hl:listed.setIfInBounds i true=listed')
 (h:Still P n e S op ty v) (hS:S w) (hd:Nat.blt d n=true) (hk:RH P n K S ops fuel listed' ((d,v)::e) w):RH P n K S ops (fuel+1) listed e w :=
 RH.first hi rfl hb hl (fun a ha=>.inl ⟨by simp[Region.wanted,zDM ha hj ht],fun w hw=>h.go a w ha hw _ _ _ _⟩) hS hd hk
theorem RH.takeNo {fuel i:Nat}{listed listed':Array Bool}{d:Nat}{op:Op}{ty:TypeId}{pos:String}{aft:Array Edge}{j t:Nat}{b c:Bool}(hi:ops[i]? = some ⟨some d,op,ty,pos,aft,some (j,b)⟩)
 (hj:((ops[j]?).bind (·.dst))=some t) (ht:e.get t=some (.bool c)) (hne:(c == b)=false) (hb:zFK ops listed i=true) (hl:listed.setIfInBounds i true=listed')
 (hS:S w) (hd:Nat.blt d n=true) (hk:RH P n K S ops fuel listed' ((d,undef)::e) w):RH P n K S ops (fuel+1) listed e w :=
 RH.first hi rfl hb hl (fun a ha=>.inr ⟨by simp[Region.wanted,zDM ha hj ht,hne],rfl⟩) hS hd hk
theorem RH.takeUndef {fuel i:Nat}{listed listed':Array Bool}{d:Nat}{op:Op}{ty:TypeId}{pos:String}{aft:Array Edge}{j t:Nat}{b:Bool}(hi:ops[i]? = some ⟨some d,op,ty,pos,aft,some (j,b)⟩)
 (hj:((ops[j]?).bind (·.dst))=some t) (ht:e.get t=some undef) (hb:zFK ops listed i=true) (hl:listed.setIfInBounds i true=listed')
 (hS:S w) (hd:Nat.blt d n=true) (hk:RH P n K S ops fuel listed' ((d,undef)::e) w):RH P n K S ops (fuel+1) listed e w :=
 RH.first hi rfl hb hl (fun a ha=>.inr ⟨by simp[Region.wanted,zE3 ha hj ht],rfl⟩) hS hd hk
def bm (m k:Nat):Array Bool:=((List.range m).map fun i=>k.testBit i).toArray
theorem RH.relist {fuel:Nat}{listed listed':Array Bool}(h:listed=listed')(hk:RH P n K S ops fuel listed' e w):RH P n K S ops fuel listed e w:=by subst h;exact hk
theorem RH.all1 {fuel i:Nat}{listed:Array Bool}(hr:Region.ready .any ops.toArray listed=[i])(h:RI P n K S ops fuel listed i e w):RH P n K S ops (fuel+1) listed e w :=
 ⟨fun a ha=>wpAnyH_all hr (by simp) (fun j hj=>by simp at hj;subst hj;exact h.go a ha)⟩
theorem RH.all2 {fuel i1 i2:Nat}{listed:Array Bool}(hr:Region.ready .any ops.toArray listed=[i1,i2])(h1:RI P n K S ops fuel listed i1 e w)(h2:RI P n K S ops fuel listed i2 e w):RH P n K S ops (fuel+1) listed e w :=
 ⟨fun a ha=>wpAnyH_all hr (by simp) (fun j hj=>by
  simp at hj;rcases hj with rfl|rfl
  · exact h1.go a ha
  · exact h2.go a ha)⟩
theorem RH.all3 {fuel i1 i2 i3:Nat}{listed:Array Bool}(hr:Region.ready .any ops.toArray listed=[i1,i2,i3])(h1:RI P n K S ops fuel listed i1 e w)(h2:RI P n K S ops fuel listed i2 e w)(h3:RI P n K S ops fuel listed i3 e w):RH P n K S ops (fuel+1) listed e w :=
 ⟨fun a ha=>wpAnyH_all hr (by simp) (fun j hj=>by
  simp at hj;rcases hj with rfl|rfl|rfl
  · exact h1.go a ha
  · exact h2.go a ha
  · exact h3.go a ha)⟩
theorem RI.op {fuel i:Nat}{listed listed':Array Bool}{dst:Option Tmp}{op:Op}{ty:TypeId}{pos:String}{aft:Array Edge}(hi:ops[i]? = some ⟨dst,op,ty,pos,aft,none⟩)(hl:listed.setIfInBounds i true=listed')
 (h:OP P n ⟨dst,op,ty,pos,aft,none⟩ e w (fun e' w'=>S w'∧RH P n K S ops fuel listed' e' w')):RI P n K S ops fuel listed i e w:=by
 subst hl;refine⟨fun a ha=>?_⟩;unfold wpOp;have hi':ops.toArray[i]? = some ⟨dst,op,ty,pos,aft,none⟩:=by simpa using hi
 rw[hi'];simp only[Region.wanted,if_true];exact .inl (h.go a ha _ _ (fun e' a' w' hok hk=>⟨hk.1,hk.2.go a' hok⟩))
theorem RI.yes {fuel i:Nat}{listed listed':Array Bool}{dst:Option Tmp}{op:Op}{ty:TypeId}{pos:String}{aft:Array Edge}{j t:Nat}{b:Bool}(hi:ops[i]? = some ⟨dst,op,ty,pos,aft,some (j,b)⟩)
 (hj:((ops[j]?).bind (·.dst))=some t) (ht:e.get t=some (.bool b)) (hl:listed.setIfInBounds i true=listed')
 (h:OP P n ⟨dst,op,ty,pos,aft,some (j,b)⟩ e w (fun e' w'=>S w'∧RH P n K S ops fuel listed' e' w')):RI P n K S ops fuel listed i e w:=by
 subst hl;refine⟨fun a ha=>?_⟩;unfold wpOp;have hi':ops.toArray[i]? = some ⟨dst,op,ty,pos,aft,some (j,b)⟩:=by simpa using hi
 rw[hi'];simp only[Region.wanted,zDM ha hj ht];rw[if_pos (by simp)];exact .inl (h.go a ha _ _ (fun e' a' w' hok hk=>⟨hk.1,hk.2.go a' hok⟩))
theorem RI.no {fuel i:Nat}{listed listed':Array Bool}{d:Nat}{op:Op}{ty:TypeId}{pos:String}{aft:Array Edge}{j t:Nat}{b c:Bool}(hi:ops[i]? = some ⟨some d,op,ty,pos,aft,some (j,b)⟩)
 (hj:((ops[j]?).bind (·.dst))=some t) (ht:e.get t=some (.bool c)) (hne:(c == b)=false) (hl:listed.setIfInBounds i true=listed') (hd:Nat.blt d n=true) (hS:S w)
 (h:RH P n K S ops fuel listed' ((d,undef)::e) w):RI P n K S ops fuel listed i e w:=by
 subst hl;refine⟨fun a ha=>?_⟩;unfold wpOp;have hi':ops.toArray[i]? = some ⟨some d,op,ty,pos,aft,some (j,b)⟩:=by simpa using hi
 rw[hi'];simp only[Region.wanted,zDM ha hj ht];rw[if_neg (by simpa using hne)];exact⟨hS,h.go _ (ha.put hd undef)⟩
theorem RI.noUndef {fuel i:Nat}{listed listed':Array Bool}{d:Nat}{op:Op}{ty:TypeId}{pos:String}{aft:Array Edge}{j t:Nat}{b:Bool}(hi:ops[i]? = some ⟨some d,op,ty,pos,aft,some (j,b)⟩)
 (hj:((ops[j]?).bind (·.dst))=some t) (ht:e.get t=some undef) (hl:listed.setIfInBounds i true=listed') (hd:Nat.blt d n=true) (hS:S w)
 (h:RH P n K S ops fuel listed' ((d,undef)::e) w):RI P n K S ops fuel listed i e w:=by
 subst hl;refine⟨fun a ha=>?_⟩;unfold wpOp;have hi':ops.toArray[i]? = some ⟨some d,op,ty,pos,aft,some (j,b)⟩:=by simpa using hi
 rw[hi'];simp only[Region.wanted,zE3 ha hj ht];rw[if_neg (by simp)];exact⟨hS,h.go _ (ha.put hd undef)⟩
theorem RH.split {fuel d:Nat}{listed:Array Bool}{p:Prop}[Decidable p](h1:p→RH P n K S ops fuel listed ((d,.bool true)::e) w)(h2:¬p→RH P n K S ops fuel listed ((d,.bool false)::e) w) :
 RH P n K S ops fuel listed ((d,.bool (decide p))::e) w:=by
 by_cases h:p
 · rw[decide_eq_true h];exact h1 h
 · rw[decide_eq_false h];exact h2 h
theorem St.sublist {we w:World}{ρ:List (Nat × Obj)}{σ σ':List HP}(hs : σ'.Sublist σ):St we ρ σ w→St we ρ σ' w:=by
 intro h;obtain⟨hb,⟨X,hX,hn,hr,hρ⟩,hro⟩:=h;have key:∀{σ' σ:List HP},σ'.Sublist σ→∀{X:List Nat},sep σ w X→∃Y,Y.Sublist X∧sep σ' w Y:=by
  intro σ' σ hs;induction hs with
  | slnil=>exact fun h=>⟨_,List.Sublist.refl _,h⟩
  | cons _ _ ih =>
    rintro X ⟨X1,X2,rfl,_,h2⟩;obtain⟨Y,h3,h4⟩:=ih h2;exact⟨Y,h3.trans (List.sublist_append_right _ _),h4⟩
  | cons_cons _ _ ih =>
    rintro X ⟨X1,X2,rfl,h1,h2⟩;obtain⟨Y,h3,h4⟩:=ih h2;exact⟨X1++Y,List.Sublist.append_left h3 _,X1,Y,rfl,h1,h4⟩
 obtain⟨Y,h1,h2⟩:=key hs hX;exact⟨hb,⟨Y,h2,h1.nodup hn,fun b hb'=>hr b (h1.subset hb'),fun x hx hx'=>hρ x hx (h1.subset hx')⟩,hro⟩
section
variable {we:World}{ρ:List (Nat × Obj)}{σ σ':List HP}
theorem Run.regionQ_of {id:Nat}{l:List Oper}(hS:St we ρ σ w)(hm:P.follows .mixedOrders=true)(hB:Region.lexB .any l.toArray=true)(h:RQ P f n R k (St we ρ σ) l l e):Run P f n R (.code (.region id l.toArray true)::k) e w :=
 Run.regionQ hm hB hS.drew h
theorem Run.regionH_of {id m:Nat}{l:List Oper}{listed:Array Bool}(hS:St we ρ σ w)(hs : σ'.Sublist σ)(hm:P.follows .mixedOrders=true)(hl:l.length=m)(hr:Array.replicate m false=listed)
 (h:∀w1,St we ρ σ w1→RH P n (fun e w=>Run P f n R k e w) (St we ρ σ') l m listed e w1):Run P f n R (.code (.region id l.toArray true)::k) e w :=
 Run.regionH _ _ (fun _ _ h=>h) hm hl hr (h _ hS.drew)
def Cut {α:Type}(we:World)(ρ:List (Nat × Obj))(σ2 : α→List HP)(e2 : α→Env)(e:Env)(w:World):Prop:=∃x,Sub e (e2 x)∧St we ρ (σ2 x) w
theorem Run.regionH_cut {α:Type}{id m:Nat}{l:List Oper}{listed:Array Bool}(σ2 : α→List HP)(e2 : α→Env)(hS:St we ρ σ w)(hs : σ'.Sublist σ)(hm:P.follows .mixedOrders=true)(hl:l.length=m)(hr:Array.replicate m false=listed)
 (h:∀w1,St we ρ σ w1→RH P n (Cut we ρ σ2 e2) (St we ρ σ') l m listed e w1) (hpost:∀x w1,St we ρ (σ2 x) w1→Run P f n R k (e2 x) w1):Run P f n R (.code (.region id l.toArray true)::k) e w :=
 Run.regionH _ _ (fun e w ⟨x,h1,h2⟩=>Run.weaken h1 (hpost x w h2)) hm hl hr (h _ hS.drew)
end
end
def zBN (eqv:Value→Bool):List MapEntry→Nat→Option (Nat × Value)
 | [],_=>none
 | e::es,i=>if eqv e.key=true then some (i,e.val) else zBN eqv es (i+1)
structure KeyIs (P:Program)(kt:TypeId)(k:Value)(es:List MapEntry)(eqv:Value→Bool):Prop where
 find:∀w:World,(Instr.findKey kt k es).run P w = .ok (zBN eqv es 0) w
 check:∀(b:Bool) (w:World),(Instr.checkKey b 10000 kt k).run P w = .ok () w
theorem zFG {d:TypeDesc}{k:Value}{eqv:Value→Bool}:∀(es:List MapEntry) (i:Nat),(∀e∈es,Instr.sameNow d k e.key=some (eqv e.key))→Instr.findNow d k es i=some (zBN eqv es i)
 | [],_,_=>rfl
 | e::es,i,h=>by
   have h1:=h e (by simp);simp only[Instr.findNow,h1,zBN];cases hq:eqv e.key with
   | true=>simp
   | false=>simpa using zFG es (i+1) (fun e' he'=>h e' (by simp[he']))
theorem zGa {P:Program}{kt:TypeId}{k:Value}{eqv:Value→Bool}{w:World}:∀(es:List MapEntry) (i:Nat),(∀e∈es,(Op.equal kt k e.key).run P w = .ok (eqv e.key) w)→(Instr.findAsking kt k es i).run P w = .ok (zBN eqv es i) w
 | [],_,_=>rfl
 | e::es,i,h=>by
   have h1:=h e (by simp);simp only[Instr.findAsking,Sem.run_bind,h1,Result.andThen_ok,zBN,Sem.run_ite];cases hq:eqv e.key with
   | true=>simp
   | false=>simpa using zGa es (i+1) (fun e' he'=>h e' (by simp[he']))
theorem KeyIs.int {P:Program}{kt:TypeId}{q:IntKind}{k:Int}{es:List MapEntry}{f:Value→Int}(ht:P.underlying kt=some (.int q))(hk:∀e∈es,e.key = .int q (f e.key)) :
 KeyIs P kt (.int q k) es (fun u=>decide (k=f u)):=by
 refine⟨fun w=>?_,fun b w=>?_⟩
 · have h1:=zFG (d:=.int q) (k:=.int q k) (eqv:=fun u=>decide (k=f u)) es 0 (fun e he=>by
    rw[hk e he];have:=hk e he;simp only[Instr.sameNow,if_true];congr 1
    rw[← this];rfl)
   simp[Instr.findKey,run_underlying ht,h1]
 · show(Instr.checkKey b (9999+1) kt _).run P w=_
   rw[Instr.checkKey];simp only[Sem.run_bind,run_underlying ht,Result.andThen_ok];rfl
theorem KeyIs.bool {P:Program}{kt:TypeId}{k:Bool}{es:List MapEntry}{f:Value→Bool}(ht:P.underlying kt=some .bool)(hk:∀e∈es,e.key = .bool (f e.key)) :
 KeyIs P kt (.bool k) es (fun u=>k == f u):=by
 refine⟨fun w=>?_,fun b w=>?_⟩
 · have h1:=zFG (d:=.bool) (k:=.bool k) (eqv:=fun u=>k == f u) es 0 (fun e he=>by
    rw[hk e he];have:=hk e he;simp only[Instr.sameNow];rw[← this])
   simp[Instr.findKey,run_underlying ht,h1]
 · show(Instr.checkKey b (9999+1) kt _).run P w=_
   rw[Instr.checkKey];simp only[Sem.run_bind,run_underlying ht,Result.andThen_ok];rfl
theorem KeyIs.string {P:Program}{kt:TypeId}{k:ByteArray}{es:List MapEntry}{f:Value→ByteArray}(ht:P.underlying kt=some .string)(hk:∀e∈es,e.key = .string (f e.key)) :
 KeyIs P kt (.string k) es (fun u=>decide (k=f u)):=by
 refine⟨fun w=>?_,fun b w=>?_⟩
 · have h1:=zFG (d:=.string) (k:=.string k) (eqv:=fun u=>decide (k=f u)) es 0 (fun e he=>by
    rw[hk e he];have:=hk e he;simp only[Instr.sameNow];rw[← this,← zK8,beq_toListBytes])
   simp[Instr.findKey,run_underlying ht,h1]
 · show(Instr.checkKey b (9999+1) kt _).run P w=_
   rw[Instr.checkKey];simp only[Sem.run_bind,run_underlying ht,Result.andThen_ok];rfl
def zFk (z:Value):Option (Nat × Value)→Value × Bool
 | some (_,v)=>(v,true)
 | none=>(z,false)
section
variable {P:Program}{f:FuncId}{n:Nat}{R:Ending→World→Prop}{k:List Item}{e:Env}{ty:TypeId}{x y z:Operand}{u v:Value}
variable {we w:World}{ρ:List (Nat × Obj)}{σ σ':List HP}{d:Nat}{pos:String}{aft:Array Edge}{gd:Option (Nat × Bool)}{K:Env→World→Prop}
theorem zJb {t kt et:TypeId}{m clock:Nat}{es:List MapEntry}{key zv:Value}{eqv:Value→Bool}{ok:Bool}(ht:P.underlying t=some (.map kt et))(hz:zGk P et=some zv)(hk:KeyIs P kt key es eqv)(hm:w.heap[m]? = some (.map es.toArray clock)) :
 (Instr.lookup t (.map (some m)) key ok).run P w = .ok (if ok then .tuple #[(zFk zv (zBN eqv es 0)).1,.bool (zFk zv (zBN eqv es 0)).2] else(zFk zv (zBN eqv es 0)).1) w:=by
 have h1:(getObj m).run P w = .ok (.map es.toArray clock) w:=by simp[getObj,Sem.run,hm]
 simp only[Instr.lookup,Sem.run_bind,run_underlying ht,Result.andThen_ok,h1,hk.check,hk.find,Sem.run_pure];cases hf:zBN eqv es 0 with
 | none=>cases ok<;>simp[zOS hz,zFk]
 | some r=>cases ok<;>simp[zFk]
theorem Still.lookup {t kt et:TypeId}{m clock:Nat}{es:List MapEntry}{key zv:Value}{eqv:Value→Bool}(hx:ev e x=some (.map (some m)))(hy:ev e y=some key)(ht:P.underlying t=some (.map kt et))(hz:zGk P et=some zv)
 (hm:Rd ρ σ m (.map es.toArray clock)) (hk:KeyIs P kt key es eqv) {r:Option (Nat × Value)} (hr:zBN eqv es 0=r) (hv:(zFk zv r).1=v):Still P n e (St we ρ σ) (.lookup t x y false) ty v:=Still.mk fun a w ha hS d pos aft g=>by
 subst hr;subst hv;simp only[execOp,ha.ev hx,ha.ev hy,Sem.run_bind,zJb ht hz hk (hS.rd hm),Result.andThen_ok,Sem.run_pure];rfl
theorem Still.lookupOk {t kt et:TypeId}{m clock:Nat}{es:List MapEntry}{key zv:Value}{eqv:Value→Bool}(hx:ev e x=some (.map (some m)))(hy:ev e y=some key)(ht:P.underlying t=some (.map kt et))(hz:zGk P et=some zv)
 (hm:Rd ρ σ m (.map es.toArray clock)) (hk:KeyIs P kt key es eqv) {r:Option (Nat × Value)} (hr:zBN eqv es 0=r) {b:Bool} (hv:zFk zv r=(v,b)):Still P n e (St we ρ σ) (.lookup t x y true) ty (.tuple #[v,.bool b]):=Still.mk fun a w ha hS d pos aft g=>by
 subst hr;simp only[execOp,ha.ev hx,ha.ev hy,Sem.run_bind,zJb ht hz hk (hS.rd hm),Result.andThen_ok,Sem.run_pure,hv];rfl
def mput (eqv:Value→Bool)(key v:Value)(es:List MapEntry)(clock:Nat):List MapEntry × Nat :=
 match zBN eqv es 0 with
 | some (i,_)=>(es.modify i fun e=>{ e with key,val:=v },clock)
 | none=>(es++[⟨key,v,clock⟩],clock+1)
theorem zGx {eqv:Value→Bool}:∀{es:List MapEntry} {i j:Nat} {v:Value},zBN eqv es i=some (j,v)→∃e,i≤j∧es[j - i]? = some e∧eqv e.key=true∧e.val=v
 | [],_,_,_,h=>by simp[zBN]at h
 | e::es,i,j,v,h=>by
   simp only[zBN]at h;split at h
   · simp at h;obtain⟨rfl,rfl⟩:=h;exact⟨e,by omega,by simp,by assumption,rfl⟩
   · obtain⟨e',h1,h2,h3,h4⟩:=zGx h
     refine⟨e',by omega,?_,h3,h4⟩;rw[show j - i=(j - (i+1))+1 by omega,List.getElem?_cons_succ];exact h2
theorem zJa {m clock:Nat}{es:Array MapEntry}{o:Obj}(hm:w.heap[m]? = some (.map es clock)):(setObj m o).run P w = .ok () { w with heap:=w.heap.setIfInBounds m o }:=by
 simp[setObj,Sem.run,hm]
theorem zGA {t kt et:TypeId}{m clock:Nat}{es:List MapEntry}{key val:Value}{eqv:Value→Bool}(ht:P.underlying t=some (.map kt et))(hk:KeyIs P kt key es eqv)(hb:∀e∈es,eqv e.key=true→Instr.sameBits 10000 e.key key=true)
 (hm:w.heap[m]? = some (.map es.toArray clock)) :
 (Instr.mapUpdate t (.map (some m)) key val).run P w = .ok () { w with heap:=w.heap.setIfInBounds m (.map (mput eqv key val es clock).1.toArray (mput eqv key val es clock).2) }:=by
 have h1:(getObj m).run P w = .ok (.map es.toArray clock) w:=by simp[getObj,Sem.run,hm]
 simp only[Instr.mapUpdate,Sem.run_bind,run_underlying ht,Result.andThen_ok,h1,hk.check,hk.find];cases hf:zBN eqv es 0 with
 | none =>
   simp only[mput,hf,zJa hm];simp
 | some r =>
   obtain⟨i,v0⟩:=r;obtain⟨e0,_,h2,h3,h4⟩:=zGx hf;simp only[Nat.sub_zero]at h2;have h5:(es.toArray[i]?).map (·.key)=some e0.key:=by simp[h2]
   have h6:=hb e0 (List.mem_of_getElem? h2) h3;simp only[h5,Option.getD_some,Instr.keyThatStays,h6,if_true,Sem.run_bind,Sem.run_pure,Result.andThen_ok,zJa hm,mput,hf];have h7:∀g:MapEntry→MapEntry,es.toArray.modify i g=(es.modify i g).toArray:=fun g=>by
    apply Array.ext';simp
   rw[h7]
theorem OP.mapUpdate {t kt et:TypeId}{m clock c2:Nat}{es es2:List MapEntry}{key val:Value}{eqv:Value→Bool}(hS:St we ρ σ w)(hx:ev e x=some (.map (some m)))(hy:ev e y=some key)(hz:ev e z=some val)(ht:P.underlying t=some (.map kt et))
 (hp:Put (Blk m (.map es.toArray clock)) (Blk m (.map es2.toArray c2)) σ σ') (hk:KeyIs P kt key es eqv) (hb:∀e∈es,eqv e.key=true→Instr.sameBits 10000 e.key key=true) (he:mput eqv key val es clock=(es2,c2))
 (hK:∀w1,St we ρ σ' w1→K e w1):OP P n ⟨none,.mapUpdate t x y z,ty,pos,aft,gd⟩ e w K:=by
 have hm:=hS.lt hp.has;have hlt:m<w.heap.size:=(Array.getElem?_eq_some_iff.1 hm).1;have h1:=zGA (P:=P) (val:=val) ht hk hb hm;rw[he]at h1;refine OP.act (fun a ha=>?_) (hK { w with heap:=w.heap.setIfInBounds m (.map es2.toArray c2) } (hS.write hp rfl rfl rfl (by simp) (by simp[hlt]) (fun k hk=>by simp[Array.getElem?_setIfInBounds,Ne.symm hk])));simp only[execOp,ha.ev hx,ha.ev hy,ha.ev hz,Sem.run_bind,h1,Result.andThen_ok,Sem.run_pure]
theorem OP.insert {t kt et:TypeId}{m clock c2:Nat}{es es2:List MapEntry}{key val:Value}{eqv:Value→Bool}(hS:St we ρ σ w)(hx:ev e x=some (.map (some m)))(hy:ev e y=some key)(hz:ev e z=some val)(ht:P.underlying t=some (.map kt et))
 (hp:Put (Blk m (.map es.toArray clock)) (Blk m (.map es2.toArray c2)) σ σ') (hk:KeyIs P kt key es eqv) (hb:∀e∈es,eqv e.key=true→Instr.sameBits 10000 e.key key=true) (he:mput eqv key val es clock=(es2,c2))
 (hK:∀w1,St we ρ σ' w1→K e w1):OP P n ⟨none,.insert t x y z,ty,pos,aft,gd⟩ e w K:=by
 have hm:=hS.lt hp.has;have hlt:m<w.heap.size:=(Array.getElem?_eq_some_iff.1 hm).1;have h1:=zGA (P:=P) (val:=val) ht hk hb hm;rw[he]at h1;refine OP.act (fun a ha=>?_) (hK { w with heap:=w.heap.setIfInBounds m (.map es2.toArray c2) } (hS.write hp rfl rfl rfl (by simp) (by simp[hlt]) (fun k hk=>by simp[Array.getElem?_setIfInBounds,Ne.symm hk])));simp only[execOp,ha.ev hx,ha.ev hy,ha.ev hz,Sem.run_bind,h1,Result.andThen_ok,Sem.run_pure]
end
theorem zNM {w w':World}{el:TypeId}{size n:Nat}{v:Value}{xs:List Value}(h:w.ownsRow 0 el size v n xs)(hk:∀b∈v.ownBlock.toList,w'.heap[b]? = w.heap[b]?):w'.ownsRow 0 el size v n xs:=by
 refine⟨h.1,?_⟩;rcases h.2 with hn|⟨g,cap,cur,rfl,hb,hg,rest⟩
 · exact .inl hn
 · exact .inr ⟨g,cap,cur,rfl,hb,by rw[hk g (by simp[Value.ownBlock])];exact hg,rest⟩
def Vec (el:TypeId)(size:Nat)(v:Value)(n:Nat)(xs:List Value):HP where
 holds w X:=w.ownsRow 0 el size v n xs∧X=v.ownBlock.toList
 loc:=fun⟨h,hx⟩ hk=>⟨zNM h (fun b hb=>hk b (by rw[hx];exact hb)),hx⟩
section
variable {P:Program}{f:FuncId}{n:Nat}{R:Ending→World→Prop}{k:List Item}{e:Env}{ty:TypeId}{x y z:Operand}{u v:Value}
variable {we w:World}{ρ:List (Nat × Obj)}{σ σ' F:List HP}{d:Nat}{pos:String}{aft:Array Edge}{gd:Option (Nat × Bool)}{K:Env→World→Prop}
variable {el:TypeId}{size m cap:Nat}{xs:List Value}
theorem zAh (h:St we ρ F w):St we ρ (Vec el size (.slice none 0 0) 0 []::F) w:=by
 obtain⟨hb,⟨X,hs,hn,hr,hρ⟩,hro⟩:=h;exact⟨hb,⟨X,⟨[],X,rfl,⟨World.ownsRow_nil w 0 el size,rfl⟩,hs⟩,hn,hr,hρ⟩,hro⟩
theorem zBF {g:Nat}{l:List Value}(h:St we ρ (Row g l el::F) w)(h1:m≤cap)(h2:cap≤maxLen)(h3:l.length=cap*size)(h4:l.take (m*size)=xs):St we ρ (Vec el size (.slice (some ⟨g,0,none⟩) m cap) m xs::F) w:=by
 obtain⟨hb,⟨X,⟨X1,X2,rfl,ha,hf⟩,hn,hr,hρ⟩,hro⟩:=h;have ha':X1=[g]∧w.heap[g]? = some (.cells l.toArray el (0,0)):=by unfold Row Blk at ha;exact ha
 refine⟨hb,⟨X1++X2,⟨X1,X2,rfl,⟨⟨?_,.inr ⟨g,cap,l.toArray,rfl,Nat.zero_le _,ha'.2,h1,h2,by simpa using h3,h4⟩⟩,by simp[ha'.1,Value.ownBlock]⟩,hf⟩,hn,hr,hρ⟩,hro⟩;rw[← h4,List.length_take,h3];exact Nat.min_eq_left (Nat.mul_le_mul_right _ h1)
theorem zBP {v:Value}(h:St we ρ (Vec el size v m xs::F) w):xs.length=m*size∧((v = .slice none 0 0∧m=0∧xs=[]∧St we ρ F w) ∨
 ∃g cap spare,v = .slice (some ⟨g,0,none⟩) m cap∧m≤cap∧cap≤maxLen∧spare.length=(cap - m)*size∧St we ρ (Row g (xs++spare) el::F) w):=by
 obtain⟨hb,⟨X,⟨X1,X2,rfl,⟨ho,hx⟩,hf⟩,hn,hr,hρ⟩,hro⟩:=h;refine⟨ho.1,?_⟩;rcases ho.2 with ⟨rfl,rfl⟩|⟨g,cap,cur,rfl,hbg,hg,hnc,hcm,hcs,htake⟩
 · refine .inl ⟨rfl,rfl,List.eq_nil_of_length_eq_zero (by simpa using ho.1),hb,⟨X2,hf,(List.nodup_append.1 hn).2.1,fun b hb=>hr b (by simp[hb]),fun x hx' h2=>hρ x hx' (by simp[h2])⟩,hro⟩
 · refine .inr ⟨g,cap,cur.toList.drop (m*size),rfl,hnc,hcm,?_,hb,⟨X1++X2,⟨X1,X2,rfl,?_,hf⟩,hn,hr,hρ⟩,hro⟩
   · simp[hcs,Nat.sub_mul]
   · unfold Row Blk
     refine⟨by simpa[Value.ownBlock]using hx,?_⟩;rw[hg,← htake,List.take_append_drop]
theorem OP.append {t:TypeId}{i:TypeInfo}{z:Value}{bytes q o c k:Nat}{l news:List Value}{el':TypeId}{fr:Nat × Nat}{v:Value}
 (hS:St we ρ σ w) (hx:ev e x=some v) (hy:ev e y=some (.slice (some ⟨q,o,none⟩) k c)) (ht:zEv P t=some el) (hi:P.info? el=some i) (hz:i.zero=some z)
 (hsize:i.size=size) (hby:i.bytes=bytes) (hzs:z.cells.size=size) (hsz:0<size) (hT:Take (Vec el size v m xs) σ F) (hq:Rd ρ F q (.cells l.toArray el' fr))
 (hn:(l.drop o).take (k*size)=news) (hl:news.length=k*size) (h1:∀u∈news,one u=true) (h63:m+k≤maxLen) (hbytes:(m+k)*bytes≤140737488355328) (hd:Nat.blt d n=true)
 (hk:∀v' w1,St we ρ (Vec el size v' (m+k) (xs++news)::F) w1→K ((d,v')::e) w1) :
 OP P n ⟨some d,.call { callee:=.builtin .append,args := #[x,y],argTypes := #[t,t] },ty,pos,aft,gd⟩ e w K:=by
 have hS1:=hS.take hT;have hown:w.ownsRow 0 el size v m xs:=by
  obtain⟨X,⟨X1,X2,rfl,ha,hf⟩,_⟩:=hS1.own;exact ha.1
 have hro:=hS1.tail.rd hq;have hnews:∀j u,news[j]? = some u→w.cell? ((⟨q,o,none⟩:Addr).add j)=some u:=by
  intro j u hj;rw[Addr.add_lit];refine zCq hro ?_;rw[← hn,List.getElem?_take]at hj;split at hj
  · rwa [List.getElem?_drop]at hj
  · cases hj
 obtain⟨v',w',e1,e2,e3,e4,e5⟩:=run_append_own_at (P:=P) w 0 t ty el i z size bytes (zBi ht) hi hz hsize hby hzs hsz v m xs hown ⟨q,o,none⟩ k c news hl hnews (fun u hu=>zIR (h1 u hu)) h63 hbytes (Nat.zero_le _);refine OP.put (v:=v') (w':=w') (fun a ha=>?_) hd (hk v' w' ?_)
 · simp only[execOp,resolve,invoke,Deferred.ofValue,Sem.run_bind,Sem.run_pure,Result.andThen_ok,ha.ev hx,ha.ev hy]
   simp[builtin,ha.ev hx,ha.ev hy,e1]
 · refine hS1.turn e3.os e3.tape e3.output e3.size (fun X hX hnd=>⟨v'.ownBlock.toList,⟨e2,rfl⟩,?_,?_,?_,?_⟩)
   · cases v'.ownBlock<;>simp
   · intro b hb
     rcases e5 with h|h
     · rw[h]at hb;exact .inl (by rw[hX.2];exact hb)
     · rw[h]at hb;simp at hb;exact .inr (by omega)
   · intro b hb
     exact(e2.lt b (by simpa using hb)).2
   · intro b hb hX'
     refine e3.block b hb (fun h=>hX' ?_);rw[hX.2,← h];simp
end
attribute [irreducible] Vec
end Go.Proofs.YtcikdogkkgefcaaGreatDoor
