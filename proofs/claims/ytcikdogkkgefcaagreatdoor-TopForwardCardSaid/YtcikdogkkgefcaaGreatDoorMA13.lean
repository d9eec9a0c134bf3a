/- slices.Index, Contains, IndexFunc, ContainsFunc, Equal over slices that are read alone. Ranging over a string's runes. Patterns, and which may be: their words, and the program's token.Right. -/
import Derived.Laws.RangeString
import Derived.Laws.RangeAny
import Derived.ChangeKeysEq
import Derived.Test.YtcikdogkkgefcaaGreatDoorMA07
namespace Go.Proofs.YtcikdogkkgefcaaGreatDoor
set_option maxRecDepth 8000
set_option maxHeartbeats 16000000
set_option linter.unusedVariables false
set_option linter.unusedSimpArgs false
open Go Go.RowKit
def zAQ {α:Type}(p : α→Bool):List α→Int→Int
 | [],_ => -1
 | x::l,i=>if p x=true then i else zAQ p l (i+1)
theorem zDJ {α:Type}{p : α→Bool}:∀{l:List α} {i:Int},0≤i→(0≤zAQ p l i↔l.any p=true)
 | [],i,_=>by simp[zAQ]
 | x::l,i,hi=>by
   simp only[zAQ,List.any_cons];cases hp:p x with
   | true=>simp[hi]
   | false=>simpa using zDJ (p:=p) (l:=l) (i:=i+1) (by omega)
theorem zVz {x:Int}{l:List Int}:l.any (fun y=>decide (x=y))=decide (x∈l):=by
 rw[Bool.eq_iff_iff,List.any_eq_true];simp
def msgL (m:Int × Value):List Value:=[pI m.1,m.2]
section
variable {we w:World}{ρ:List (Nat × Obj)}{σ F:List HP}{v:Value}
theorem zTs {x:Int}{l:List Int}(hl:Sl ρ intL 1 v l)(hS:St we ρ σ w) :
 Cl Tryz.prog 105 [v,pI x] w fun u w'=>u = pI (zAQ (fun y=>decide (x=y)) l 0)∧St we ρ σ w':=by
 obtain⟨p1,c1,rfl,k1,k2,_⟩:=hl.val;unfold maxLen at k2;refine Run.calls2 (n:=19) Tryz.func105 rfl rfl rfl ?_;repeat' first|apply Qs|apply Qr|apply Qn|refine Ql ?_|apply Qb
 refine Run.while (fun i:Nat=>[(0,.slice p1 l.length c1),(1,pI x),(7,pI l.length),(8,pI i)])
  (fun i w=>i≤l.length∧zAQ (fun y=>decide (x=y)) l 0=zAQ (fun y=>decide (x=y)) (l.drop i) i∧St we ρ σ w) (fun i=>l.length - i) 0 ⟨by omega,by simp,hS⟩ (by exact Sb) ?_
 clear hS;rintro i w ⟨hi,hfirst,hS⟩ ih;by_cases hlt:i<l.length
 · obtain⟨b0,o0,cs0,e0,f0,rfl,m0,h0⟩:=hl.int hlt
   have hd:l.drop i=l[i]::l.drop (i+1):=List.drop_eq_getElem_cons hlt;generalize l[i]=y at hd h0;repeat' first|(refine Ql ?_ (h:=by apply Still.load;rfl;rfl;exact Rd.ro m0;exact h0))|apply Qs|apply Qr|(apply Rs<;>intro hc<;>try exact No)|apply Qn|refine Ql ?_|refine Qt ?_|refine Qf ?_|apply Qk|apply Qb|apply Qi
   · have hxy:x=y:=by assumption
     refine Qw Tryz.func105 ?_;exact⟨by rw[hfirst,hd];simp[zAQ,hxy,tup],hS⟩
   · have hxy:¬x=y:=by assumption
     refine Run.weaken (e':=[_,_,_,(8,pI ((i+1:Nat):Int))]) (by exact Sb) (ih (i+1) _ ⟨by omega,?_,hS⟩ (by omega));rw[hfirst,hd];simp[zAQ,hxy]
 · obtain rfl:i=l.length:=by omega
   repeat' first|apply Qs|apply Qr|(apply Rs<;>intro hc<;>try exact No)|apply Qn|refine Ql ?_|refine Qf ?_|refine Qe ?_
   refine Qw Tryz.func105 ?_;exact⟨by rw[hfirst];simp[zAQ,tup],hS⟩
theorem zFs {x:Int}{l:List Int}(hl:Sl ρ intL 1 v l)(hS:St we ρ σ w) :
 Cl Tryz.prog 60 [v,pI x] w fun u w'=>u = .bool (decide (x∈l))∧St we ρ σ w':=by
 have hn:=zDJ (p:=fun y=>decide (x=y)) (l:=l) (i:=0) (by omega);rw[zVz]at hn;refine Run.calls2 (n:=9) Tryz.func60 rfl rfl rfl ?_;repeat' first|(refine Qv 105 (zTs hl hS) ?_;clear hS;intro w1 hS)|apply Qs|apply Qr|(apply Rs<;>intro hc<;>try exact No)|apply Qn|refine Ql ?_
 · have h:decide (x∈l)=true:=hn.1 (by assumption)
   refine Qw Tryz.func60 ?_;exact⟨by rw[h];rfl,hS⟩
 · have h:decide (x∈l)=false:=by
    cases h:decide (x∈l)with
    | true=>exact absurd (hn.2 h) (by assumption)
    | false=>rfl
   refine Qw Tryz.func60 ?_;exact⟨by rw[h];rfl,hS⟩
theorem zHa {l:List Int}{g:FuncId}{cs:List Value}(p:Int→Bool)(hl:Sl ρ intL 1 v l)(hg:fnB Tryz.prog g=true)
 (hf:∀x w,St we ρ σ w→Cl Tryz.prog g (([]:List Value)++[Value.int .i64 x]++cs) w fun v w'=>v = .bool (p x)∧St we ρ σ w') (hS:St we ρ σ w) :
 Cl Tryz.prog 76 [v,.func (.func g) #[] cs.toArray] w fun u w'=>u = pI (zAQ p l 0)∧St we ρ σ w':=by
 obtain⟨p1,c1,rfl,k1,k2,_⟩:=hl.val;unfold maxLen at k2;refine Run.calls2 (n:=19) Tryz.func76 rfl rfl rfl ?_;repeat' first|apply Qs|apply Qr|apply Qn|refine Ql ?_|apply Qb
 refine Run.while (fun i:Nat=>[(0,.slice p1 l.length c1),(1,.func (.func g) #[] cs.toArray),(7,pI l.length),(8,pI i)])
  (fun i w=>i≤l.length∧zAQ p l 0=zAQ p (l.drop i) i∧St we ρ σ w) (fun i=>l.length - i) 0 ⟨by omega,by simp,hS⟩ (by exact Sb) ?_
 clear hS;rintro i w ⟨hi,hfirst,hS⟩ ih;by_cases hlt:i<l.length
 · obtain⟨b0,o0,cs0,e0,f0,rfl,m0,h0⟩:=hl.int hlt
   have hd:l.drop i=l[i]::l.drop (i+1):=List.drop_eq_getElem_cons hlt;generalize l[i]=y at hd h0;repeat' first|(apply RO.op;apply OP.callV;rfl;exact hg;rfl;rfl;exact hf _ _ hS;clear hS;rintro v w1 ⟨rfl,hS⟩;refine RO.splitB ?_ ?_<;>intro hb)|(refine Ql ?_ (h:=by apply Still.load;rfl;rfl;exact Rd.ro m0;exact h0))|apply Qs|apply Qr|(apply Rs<;>intro hc<;>try exact No)|apply Qn|refine Ql ?_|refine Qt ?_|refine Qf ?_|apply Qk|apply Qb|apply Qi
   · refine Qw Tryz.func76 ?_
     exact⟨by rw[hfirst,hd];simp[zAQ,hb,tup],hS⟩
   · refine Run.weaken (e':=[_,_,_,(8,pI ((i+1:Nat):Int))]) (by exact Sb) (ih (i+1) _ ⟨by omega,?_,hS⟩ (by omega))
     rw[hfirst,hd];simp[zAQ,hb]
 · obtain rfl:i=l.length:=by omega
   repeat' first|apply Qs|apply Qr|(apply Rs<;>intro hc<;>try exact No)|apply Qn|refine Ql ?_|refine Qf ?_|refine Qe ?_
   refine Qw Tryz.func76 ?_;exact⟨by rw[hfirst];simp[zAQ,tup],hS⟩
theorem zCI {l:List Int}{g:FuncId}{cs:List Value}(p:Int→Bool)(hl:Sl ρ intL 1 v l)(hg:fnB Tryz.prog g=true)
 (hf:∀x w,St we ρ σ w→Cl Tryz.prog g (([]:List Value)++[Value.int .i64 x]++cs) w fun v w'=>v = .bool (p x)∧St we ρ σ w') (hS:St we ρ σ w) :
 Cl Tryz.prog 38 [v,.func (.func g) #[] cs.toArray] w fun u w'=>u = .bool (l.any p)∧St we ρ σ w':=by
 have hn:=zDJ (p:=p) (l:=l) (i:=0) (by omega);refine Run.calls2 (n:=9) Tryz.func38 rfl rfl rfl ?_;repeat' first|(apply RO.op;apply OP.callF;rfl;rfl;rfl;exact zHa p hl hg hf hS;clear hS;rintro v w1 ⟨rfl,hS⟩)|apply Qs|apply Qr|(apply Rs<;>intro hc<;>try exact No)|apply Qn|refine Ql ?_
 all_goals
  refine Qw Tryz.func38 ?_;refine⟨?_,hS⟩;simp only[tup];congr 1
  first
   | rw[hn.1 hc]
   | (cases h:l.any p with
     | true=>exact absurd (hn.2 h) hc
     | false=>rfl)
theorem zQo {cs:List Value}{k:Nat}{x y:Value}(h:(cs.drop k).take 2=[x,y]):cs[k]? = some x∧cs[k+1]? = some y:=by
 have h0:((cs.drop k).take 2)[0]? = some x:=by rw[h];rfl
 have h1:((cs.drop k).take 2)[1]? = some y:=by rw[h];rfl
 rw[List.getElem?_take,if_pos (by omega),List.getElem?_drop]at h0 h1;exact⟨h0,h1⟩
theorem Sl.msg {p:Option Addr}{cap:Nat}{l:List (Int × Value)}(h:Sl ρ msgL 2 (.slice p l.length cap) l){i:Nat}(hi:i<l.length) :
 ∃b off cs el fr,p=some ⟨b,off,none⟩∧(b,Obj.cells (List.toArray cs) el fr) ∈ ρ∧(cs.drop (off+i*2)).take 2=msgL l[i]:=by
 obtain⟨p',cap',e,_,_,hr⟩:=h.val;simp only[Value.slice.injEq]at e;obtain⟨rfl,-,rfl⟩:=e;obtain⟨b,off,cs,el,fr,rfl,hm,hc⟩:=hr (by omega);exact⟨b,off,cs,el,fr,rfl,hm,hc i hi⟩
theorem zKx {l:List (Int × Value)}{g:FuncId}{cs:List Value}(q:List Bool)(hq:q.length=l.length)(hl:Sl ρ msgL 2 v l)(hg:fnB Tryz.prog g=true)
 (hf:∀(i:Nat) (h:i<l.length) (h':i<q.length) w,St we ρ σ w→Cl Tryz.prog g (([]:List Value)++[Value.agg (msgL l[i]).toArray]++cs) w fun v w'=>v = .bool q[i]∧St we ρ σ w') (hS:St we ρ σ w) :
 Cl Tryz.prog 279 [v,.func (.func g) #[] cs.toArray] w fun u w'=>u = pI (zAQ id q 0)∧St we ρ σ w':=by
 obtain⟨p1,c1,rfl,k1,k2,_⟩:=hl.val;unfold maxLen at k2;refine Run.calls2 (n:=19) Tryz.func279 rfl rfl rfl ?_;repeat' first|apply Qs|apply Qr|apply Qn|refine Ql ?_|apply Qb
 refine Run.while (fun i:Nat=>[(0,.slice p1 l.length c1),(1,.func (.func g) #[] cs.toArray),(7,pI l.length),(8,pI i)])
  (fun i w=>i≤l.length∧zAQ id q 0=zAQ id (q.drop i) i∧St we ρ σ w) (fun i=>l.length - i) 0 ⟨by omega,by simp,hS⟩ (by exact Sb) ?_
 clear hS;rintro i w ⟨hi,hfirst,hS⟩ ih;by_cases hlt:i<l.length
 · obtain⟨b0,o0,cs0,e0,f0,rfl,m0,h0⟩:=hl.msg hlt
   have hd:q.drop i=q[i]::q.drop (i+1):=List.drop_eq_getElem_cons (by omega);have hfy:=hf i hlt (by omega);generalize q[i]=z at hd hfy;generalize l[i]=y at h0 hfy;repeat' first|(apply RO.op;apply OP.callV;rfl;exact hg;rfl;rfl;exact hfy _ hS;clear hS;rintro v w1 ⟨rfl,hS⟩;refine RO.splitB ?_ ?_<;>intro hb)|(refine Ql ?_ (h:=by apply Still.loadAgg;rfl;rfl;rfl;exact Rd.ro m0;exact h0;rfl))|apply Qs|apply Qr|(apply Rs<;>intro hc<;>try exact No)|apply Qn|refine Ql ?_|refine Qt ?_|refine Qf ?_|apply Qk|apply Qb|apply Qi
   · refine Qw Tryz.func279 ?_
     exact⟨by rw[hfirst,hd];simp[zAQ,hb,tup],hS⟩
   · refine Run.weaken (e':=[_,_,_,(8,pI ((i+1:Nat):Int))]) (by exact Sb) (ih (i+1) _ ⟨by omega,?_,hS⟩ (by omega))
     rw[hfirst,hd];simp[zAQ,hb]
 · have hiq:q.drop i=[]:=List.drop_eq_nil_of_le (by omega)
   obtain rfl:i=l.length:=by omega
   repeat' first|apply Qs|apply Qr|(apply Rs<;>intro hc<;>try exact No)|apply Qn|refine Ql ?_|refine Qf ?_|refine Qe ?_
   refine Qw Tryz.func279 ?_;exact⟨by rw[hfirst,hiq];simp[zAQ,tup],hS⟩
theorem zCp {l:List (Int × Value)}{g:FuncId}{cs:List Value}(q:List Bool)(hq:q.length=l.length)(hl:Sl ρ msgL 2 v l)(hg:fnB Tryz.prog g=true)
 (hf:∀(i:Nat) (h:i<l.length) (h':i<q.length) w,St we ρ σ w→Cl Tryz.prog g (([]:List Value)++[Value.agg (msgL l[i]).toArray]++cs) w fun v w'=>v = .bool q[i]∧St we ρ σ w') (hS:St we ρ σ w) :
 Cl Tryz.prog 248 [v,.func (.func g) #[] cs.toArray] w fun u w'=>u = .bool (q.any id)∧St we ρ σ w':=by
 have hn:=zDJ (p:=id) (l:=q) (i:=0) (by omega);refine Run.calls2 (n:=9) Tryz.func248 rfl rfl rfl ?_;repeat' first|(apply RO.op;apply OP.callF;rfl;rfl;rfl;exact zKx q hq hl hg hf hS;clear hS;rintro v w1 ⟨rfl,hS⟩)|apply Qs|apply Qr|(apply Rs<;>intro hc<;>try exact No)|apply Qn|refine Ql ?_
 all_goals
  refine Qw Tryz.func248 ?_;refine⟨?_,hS⟩;simp only[tup];congr 1
  first
   | rw[hn.1 hc]
   | (cases h:q.any id with
     | true=>exact absurd (hn.2 h) hc
     | false=>rfl)
theorem zOx {l xs:List Int}{b cap:Nat}{el:TypeId}{fr:Nat × Nat}(hl:Sl ρ intL 1 v l)(hr:Rd ρ σ b (.cells (xs.map (Value.int .i64)).toArray el fr))(hx0:xs.length<100)(hS:St we ρ σ w) :
 Cl Tryz.prog 285 [v,.slice (some ⟨b,0,none⟩) xs.length cap] w fun u w'=>u = .bool (decide (l=xs))∧St we ρ σ w':=by
 obtain⟨p1,c1,rfl,k1,k2,_⟩:=hl.val;unfold maxLen at k2;by_cases hlen:l.length=xs.length;rotate_left
 · refine Run.calls2 (n:=26) Tryz.func285 rfl rfl rfl ?_
   repeat' first|apply Qs|apply Qr|(apply Rs<;>intro hc<;>try exact No)|apply Qn|refine Ql ?_|refine Qt ?_
   refine Qw Tryz.func285 ?_;exact⟨by rw[decide_eq_false (fun h=>hlen (by rw[h]))];rfl,hS⟩
 refine Run.calls2 (n:=26) Tryz.func285 rfl rfl rfl ?_;repeat' first|apply Qs|apply Qr|(apply Rs<;>intro hc<;>try exact No)|apply Qn|refine Ql ?_|refine Qf ?_|apply Qk|apply Qb
 refine Run.while (fun i:Nat=>[(0,.slice p1 l.length c1),(1,.slice (some ⟨b,0,none⟩) xs.length cap),(12,pI l.length),(13,pI i)])
  (fun i w=>i≤l.length∧l.take i=xs.take i∧St we ρ σ w) (fun i=>l.length - i) 0 ⟨by omega,by simp,hS⟩ (by exact Sb) ?_
 clear hS;rintro i w ⟨hi,htk,hS⟩ ih;by_cases hlt:i<l.length
 · have hlt':i<xs.length:=by omega
   obtain⟨b1,o1,cs1,e1,f1,rfl,m1,h1⟩:=hl.int hlt;have h2:(xs.map (Value.int .i64))[i]? = some (pI xs[i]):=by simp[hlt']
   generalize hx:l[i]=x at h1;generalize hy:xs[i]=y at h2;repeat' first|(refine Run.regionQ_of hS (by rfl) (by kernel_rfl) ?_;clear hS)|(refine RQ.still (by apply Still.load;rfl;rfl;exact Rd.ro m1;exact h1) rfl ?_)|(refine RQ.still (by apply Still.load;rfl;rfl;exact hr;exact h2) rfl ?_)|(refine RQ.split ?_ ?_<;>intro hc<;>try exact No)|(refine RQ.nil ?_;(try clear hS);intro w1 hS)|refine RQ.still (by exact Still.any) rfl ?_|apply Qs|apply Qr|(apply Rs<;>intro hc<;>try exact No)|apply Qn|refine Ql ?_|refine Qt ?_|refine Qf ?_|apply Qk|apply Qb|apply Qi
   · have hxy:x≠y:=by assumption
     refine Qw Tryz.func285 ?_;refine⟨?_,hS⟩;rw[decide_eq_false (fun e=>hxy ?_)]
     · rfl
     · subst e
       rw[← hx,← hy]
   · have hxy:x=y:=Decidable.not_not.1 (by assumption)
     refine Run.weaken (by exact Sb) (ih (i+1) _ ⟨by omega,?_,hS⟩ (by omega));rw[List.take_succ_eq_append_getElem hlt,List.take_succ_eq_append_getElem hlt',hx,hy,htk,hxy]
 · obtain rfl:i=l.length:=by omega
   have he:l=xs:=by
    rw[List.take_of_length_le (Nat.le_refl _),hlen,List.take_of_length_le (Nat.le_refl _)]at htk;exact htk
   repeat' first|apply Qs|apply Qr|(apply Rs<;>intro hc<;>try exact No)|apply Qn|refine Ql ?_|refine Qf ?_|refine Qe ?_
   refine Qw Tryz.func285 ?_;exact⟨by rw[decide_eq_true he];rfl,hS⟩
end
section
open Go.ChangeMaps (setBlock)
section
variable {P:Program}{f:FuncId}{n:Nat}{e:Env}{x:Operand}{d:Nat}{ty:TypeId}{pos:String}{aft:Array Edge}{gd:Option (Nat × Bool)}{K:Env→World→Prop}
variable {we w:World}{ρ:List (Nat × Obj)}{σ F:List HP}
theorem OP.rangeStr {t:TypeId}{s:ByteArray}(hS:St we ρ σ w)(hx:ev e x=some (.string s))(ht:P.underlying t=some .string)(hd:Nat.blt d n=true)
 (hk:∀r w1,St we ρ (Blk r (.stringIter s 0) :: σ) w1→K ((d,pP r)::e) w1):OP P n ⟨some d,.range t x,ty,pos,aft,gd⟩ e w K :=
 OP.put (fun a ha=>by
  simp only[execOp,ha.ev hx,Sem.run_bind,run_range_string w t s ht,Result.andThen_ok,Sem.run_pure];rfl) hd (hk _ _ (hS.alloc _))
theorem OP.nextStr {r i:Nat}{s:ByteArray}(hS:St we ρ σ w)(hx:ev e x=some (pP r))(hT:Take (Blk r (.stringIter s i)) σ F)(hd:Nat.blt d n=true)
 (hend:¬i<s.size→K ((d,.tuple #[.bool false])::e) w)
 (hmore:i<s.size→∀w1,St we ρ (Blk r (.stringIter s (i+(Utf8.decode s i).2))::F) w1→K ((d,.tuple #[.bool true,pI i,.int .i32 (Utf8.decode s i).1])::e) w1) :
 OP P n ⟨some d,.next x true,ty,pos,aft,gd⟩ e w K:=by
 have hS1:=hS.take hT;have hr:=hS1.lt .head;by_cases h:i<s.size
 · refine OP.put (v:=.tuple #[.bool true,pI i,.int .i32 (Utf8.decode s i).1]) (w':=setBlock w r (.stringIter s (i+(Utf8.decode s i).2))) (fun a ha=>?_) hd (hmore h _ ?_)
   · simp[execOp,ha.ev hx,Instr.next,getObj,setObj,Sem.run_bind,Sem.run,hr,Result.andThen,h,goInt,setBlock]
   · have hlt:r<w.heap.size:=(Array.getElem?_eq_some_iff.1 hr).1
     exact hS1.write .head rfl rfl rfl (by simp[setBlock]) (by simp[setBlock,hlt]) (fun k hk=>by simp[setBlock,Array.getElem?_setIfInBounds,Ne.symm hk])
 · refine OP.put (v:=.tuple #[.bool false]) (fun a ha=>?_) hd (hend h)
   simp[execOp,ha.ev hx,Instr.next,getObj,Sem.run_bind,Sem.run,hr,Result.andThen,h]
end
theorem Still.indexAgg {P:Program}{n:Nat}{e:Env}{x y:Operand}{ty t el:TypeId}{len m:Nat}{q:IntKind}{i:Int}{cs vs:List Value}{S:World→Prop}(hx:ev e x=some (.agg cs.toArray))(hy:ev e y=some (.int q i))(ht:P.underlying t=some (.array len el))(ha:aggB P el=some true)(hs:zDm P el=some m)
 (h0:0≤i) (h1:i<len) (hv:(cs.drop (i.toNat*m)).take m=vs):Still P n e S (.index t x y) ty (.agg vs.toArray):=Still.mk fun a w hok _ d pos aft g=>by
 subst hv;simp only[execOp,hok.ev hx,hok.ev hy,Instr.index,asIntOf,Sem.run_bind,Sem.run_pure,Result.andThen_ok,run_underlying ht];have e1:(cs.toArray.extract (i.toNat*m) (i.toNat*m+m))=((cs.drop (i.toNat*m)).take m).toArray:=by
  rw[List.extract_toArray,List.extract_eq_take_drop,Nat.add_sub_cancel_left]
 simp[h0,h1,zBZ hs,part,zDn ha,e1]
section
variable {P:Program}{f:FuncId}{n:Nat}{R:Ending→World→Prop}{k:List Item}{e:Env}{x:Operand}{d:Nat}{ty:TypeId}{pos:String}{aft:Array Edge}
variable {we w:World}{ρ:List (Nat × Obj)}{σ:List HP}{ops rest:List Oper}{t:TypeId}{b off:Nat}{l:List Value}{el:TypeId}{fr:Nat × Nat}{c:Bool}
theorem RO.loadB (hS:St we ρ σ w)(hx:ev e x=some (.pointer (some ⟨b,off,none⟩)))(ha:aggB P t=some false)(hr:Rd ρ σ b (.cells l.toArray el fr))(hv:l[off]? = some (.bool c))(hd:Nat.blt d n=true)
 (h1:c=true→RO P f n R k ops rest ((d,.bool true)::e) w) (h2:c=false→RO P f n R k ops rest ((d,.bool false)::e) w):RO P f n R k ops (⟨some d,.load t x,ty,pos,aft,none⟩::rest) e w :=
 RO.still (Still.load hx ha hr hv) hS hd (RO.splitB h1 h2)
theorem RQ.loadB (hx:ev e x=some (.pointer (some ⟨b,off,none⟩)))(ha:aggB P t=some false)(hr:Rd ρ σ b (.cells l.toArray el fr))(hv:l[off]? = some (.bool c))(hd:Nat.blt d n=true)
 (h1:c=true→RQ P f n R k (St we ρ σ) ops rest ((d,.bool true)::e)) (h2:c=false→RQ P f n R k (St we ρ σ) ops rest ((d,.bool false)::e)):RQ P f n R k (St we ρ σ) ops (⟨some d,.load t x,ty,pos,aft,none⟩::rest) e :=
 RQ.still (Still.load hx ha hr hv) hd (RQ.splitB h1 h2)
end
theorem St.cast {we w:World}{ρ:List (Nat × Obj)}{σ σ':List HP}(hS:St we ρ σ w)(h : σ = σ'):St we ρ σ' w:=h ▸ hS
theorem zPQ (s:ByteArray)(i:Nat)(h:i<s.size):1≤(Utf8.decode s i).2:=by
 by_cases ha:(s[i]'h).toNat<128
 · rw[decode_ascii s i h ha]
   exact Nat.le_refl _
 · exact(decode_high s i h (by omega)).2
def zCl (p:Int→Bool)(s:ByteArray):Nat→Nat→Bool
 | 0,_=>true
 | n+1,i=>if i<s.size then p (Utf8.decode s i).1 && zCl p s n (i+(Utf8.decode s i).2) else true
theorem zM7 {p:Int→Bool}{s:ByteArray}{n i:Nat}(h:¬i<s.size):zCl p s n i=true:=by
 cases n with
 | zero=>rfl
 | succ n=>simp[zCl,h]
end
structure Msg where
 who:Int
 t:List Int
deriving DecidableEq
structure Pat where
 name:ByteArray
 pre0:List Int
 pre1:List Int
 msgs:List Msg
deriving DecidableEq
inductive MsR (ρ:List (Nat × Obj)):List (Int × Value)→List Msg→Prop
 | nil:MsR ρ [] []
 | cons {v:Value} {m:Msg} {ms:List (Int × Value)} {l:List Msg} (h:Sl ρ intL 1 v m.t) (r:MsR ρ ms l):MsR ρ ((m.who,v)::ms) (m::l)
inductive PatR (ρ:List (Nat × Obj)):Value→Pat→Prop
 | mk {p:Pat} {v0 v1 vm:Value} {ms:List (Int × Value)} (h0:Sl ρ intL 1 v0 p.pre0) (h1:Sl ρ intL 1 v1 p.pre1) (hm:Sl ρ msgL 2 vm ms) (hr:MsR ρ ms p.msgs):PatR ρ (.agg #[.string p.name,v0,v1,vm]) p
theorem MsR.length {ρ:List (Nat × Obj)}{ms:List (Int × Value)}{l:List Msg}(h:MsR ρ ms l):ms.length=l.length:=by
 induction h with
 | nil=>rfl
 | cons _ _ ih=>simp[ih]
theorem MsR.mono {ρ ρ':List (Nat × Obj)}{ms:List (Int × Value)}{l:List Msg}(h:MsR ρ ms l)(hs:∀x ∈ ρ,x ∈ ρ'):MsR ρ' ms l:=by
 induction h with
 | nil=>exact .nil
 | cons h _ ih=>exact .cons (h.mono hs) ih
theorem PatR.mono {ρ ρ':List (Nat × Obj)}{v:Value}{p:Pat}(h:PatR ρ v p)(hs:∀x ∈ ρ,x ∈ ρ'):PatR ρ' v p:=by
 obtain⟨h0,h1,hm,hr⟩:=h;exact .mk (h0.mono hs) (h1.mono hs) (hm.mono hs) (hr.mono hs)
theorem MsR.at {ρ:List (Nat × Obj)}{ms:List (Int × Value)}{l:List Msg}(h:MsR ρ ms l):∀{i:Nat} (hi:i<ms.length),∃m v,l[i]? = some m∧ms[i]=(m.who,v)∧Sl ρ intL 1 v m.t:=by
 induction h with
 | nil=>intro i hi;simp at hi
 | @cons v m ms l h _ ih =>
   intro i hi;cases i with
   | zero=>exact⟨m,v,rfl,rfl,h⟩
   | succ i =>
     obtain⟨m',v',e1,e2,e3⟩:=ih (i:=i) (by simpa using hi);exact⟨m',v',by simpa using e1,by simpa using e2,e3⟩
def zDr (c:Int):Bool:=!(decide (c<97∨122<c) && decide (c<65∨90<c) && decide (c<48∨57<c) && decide (c≠43))
def zGK (s:ByteArray):Bool:=zCl zDr s s.size 0 && decide (1≤s.size) && decide (s.size≤20)
def zI6 (l:List Int):Bool:=decide (l=[]) || decide (l=[1]) || decide (l=[2]) || decide (l=[1,2])
def tokB (t:Int):Bool:=decide (t<1) || decide (7<t)
def zDk (m:Msg):Bool:=decide (m.who<0) || decide (1<m.who) || decide (m.t.length<1) || decide (12<m.t.length) || m.t.any tokB
def zBS (p:Pat):Bool:=zGK p.name && zI6 p.pre0 && zI6 p.pre1 && decide (1≤p.msgs.length) && decide (p.msgs.length≤6) && !p.msgs.any zDk
section
variable {we w:World}{ρ:List (Nat × Obj)}{σ F:List HP}{v:Value}
theorem zPe {x:Int}(hS:St we ρ σ w):Cl Tryz.prog 265 [pI x] w fun u w'=>u = .bool (tokB x)∧St we ρ σ w':=by
 refine Run.calls1 (n:=9) Tryz.func265 rfl rfl rfl ?_;repeat' first|apply Qs|apply Qr|(apply Rs<;>intro hc<;>try exact No)|apply Qn|refine Ql ?_|refine Qy ?_|refine Qz ?_
 all_goals
  refine Qw Tryz.func265 ?_;refine⟨?_,hS.pk⟩;simp_all [tokB,tup]
theorem zMg {x:Int × Value}{m:Msg}{b:Nat}(h1:x.1=m.who)(h2:Sl ρ intL 1 x.2 m.t)(hb:Rd ρ σ b (.cells [Value.func (.func 265) #[] #[]].toArray 43 (0,0)))(hS:St we ρ σ w) :
 Cl Tryz.prog 266 [.agg (msgL x).toArray,pP b] w fun u w'=>u = .bool (zDk m)∧St we ρ σ w':=by
 obtain⟨wh,tv⟩:=x;simp only at h1 h2;subst h1;obtain⟨p1,c1,rfl,k1,k2,-⟩:=h2.val;unfold maxLen at k2;refine Run.calls2 (n:=30) Tryz.func266 rfl rfl rfl ?_;repeat' first|(refine Qv 38 (zCI (cs:=[]) tokB h2 rfl (fun x w hS=>zPe hS) hS) ?_;clear hS;intro w1 hS;refine RO.splitB ?_ ?_<;>(intro hb;skip))|apply Qs|apply Qr|(apply Rs<;>intro hc<;>try exact No)|apply Qn|refine Ql ?_|(refine Qx ?_;clear hS;intro b w1 hS)|refine Qy ?_|refine Qz ?_
 all_goals
  refine Qw Tryz.func266 ?_;refine⟨?_,hS.pk⟩;clear hS h2;unfold zDk;generalize m.t.any tokB=bb at *;generalize m.t.length=n at *;simp_all [tup];try omega
theorem zJU {l:List Int}(hl:Sl ρ intL 1 v l)(hS:St we ρ σ w):Cl Tryz.prog 268 [v] w fun u w'=>u = .bool (zI6 l)∧St we ρ σ w':=by
 obtain⟨p1,c1,rfl,k1,k2,_⟩:=hl.val;unfold maxLen at k2;have hz:l.length=0↔l=[]:=List.length_eq_zero_iff;refine Run.calls1 (n:=21) Tryz.func268 rfl rfl rfl ?_;repeat' first|(refine Qv 285 (zOx (xs:=[_]) hl (by exact Rd.any) (by decide) hS) ?_;clear hS;intro w1 hS;refine RO.splitB ?_ ?_<;>(intro hb;skip))|(refine Qv 285 (zOx (xs:=[_,_]) hl (by exact Rd.any) (by decide) hS) ?_;clear hS;intro w1 hS;refine RO.splitB ?_ ?_<;>(intro hb;skip))|apply Qs|apply Qr|(apply Rs<;>intro hc<;>try exact No)|apply Qn|refine Ql ?_|(refine Qg ?_;clear hS;intro b w1 hS)|refine Qy ?_|refine Qz ?_
 all_goals
  refine Qw Tryz.func268 ?_;refine⟨?_,hS.pk⟩;clear hS hl;simp_all [zI6,tup];try omega
theorem zNU {s:ByteArray}(hs:s.size≤100)(hS:St we ρ σ w):Cl Tryz.prog 267 [.string s] w fun u w'=>u = .bool (zGK s)∧St we ρ σ w':=by
 refine Run.calls1 (n:=44) Tryz.func267 rfl rfl rfl ?_;repeat' first|(apply RO.op;apply OP.rangeStr hS;rfl;rfl;rfl;clear hS;intro r w1 hS)|apply Qs|apply Qr|apply Qn|refine Ql ?_|apply Qb
 refine Run.while (fun i:Nat × Nat=>[(0,.string s),(6,pP r)])
  (fun i w=>zCl zDr s s.size 0=zCl zDr s i.2 i.1∧s.size - i.1≤i.2∧St we ρ (Blk r (.stringIter s i.1) :: σ) w) (fun i=>s.size - i.1) (0,s.size) ⟨rfl,by simp,hS⟩ (by exact Sb) ?_
 clear hS;rintro⟨i,m⟩ w ⟨h1,h2,hS⟩ ih;simp only at h1 h2 hS ih;by_cases hlt:i<s.size
 · obtain⟨k,rfl⟩:∃k,m=k+1:=⟨m - 1,by omega⟩
   have hw:=zPQ s i hlt;have hstep:zCl zDr s (k+1) i=(zDr (Utf8.decode s i).1 && zCl zDr s k (i+(Utf8.decode s i).2)):=by simp[zCl,hlt]
   generalize hd1:((Utf8.decode s i).1:Int)=c at hstep;repeat' first|(apply RO.op;apply OP.nextStr hS;rfl;apply Take.head;rfl)|(intro hend;exact absurd hlt hend)|(intro hlt2 w1 hS;rw[hd1])|apply Qs|apply Qr|(apply Rs<;>intro hc<;>try exact No)|apply Qn|refine Ql ?_|refine Qy ?_|refine Qz ?_|refine Qu ?_|refine Qt ?_|refine Qf ?_|apply Qk|apply Qb|apply Qi
   all_goals first
    | (have hk:zDr c=true:=by simp[zDr];omega
       refine Run.weaken (by exact Sb) (ih (i+(Utf8.decode s i).2,k) _ ⟨?_,?_,hS⟩ ?_)
       · rw[h1,hstep,hk,Bool.true_and]
       · simp only;omega
       · simp only;omega)
    | (have hk:zDr c=false:=by simp[zDr];omega
       refine Qw Tryz.func267 ?_;refine⟨?_,hS.pk⟩;have hn:zGK s=false:=by rw[zGK,h1,hstep,hk];rfl
       rw[hn];rfl)
 · have hz:zCl zDr s m i=true:=zM7 hlt
   rw[hz]at h1;repeat' first|(apply RO.op;apply OP.nextStr hS;rfl;apply Take.head;rfl)|(intro hlt2;exact absurd hlt2 hlt)|(intro hend)|apply Qs|apply Qr|(apply Rs<;>intro hc<;>try exact No)|apply Qn|refine Ql ?_|refine Qy ?_|refine Qz ?_|refine Qf ?_|refine Qe ?_
   all_goals
    refine Qw Tryz.func267 ?_;refine⟨?_,hS.pk⟩;rw[zGK,h1];clear hS ih;simp_all [tup];try omega
theorem zCD {p:Pat}(hs:p.name.size≤100)(hv:PatR ρ v p)(hS:St we ρ σ w):Cl Tryz.prog 235 [v] w fun u w'=>u = .bool (zBS p)∧St we ρ σ w':=by
 obtain⟨hl0,hl1,hlm,hr⟩:=hv;rename_i v0 v1 vm ms;have hlen:=hr.length;have hany:(p.msgs.map zDk).any id=p.msgs.any zDk:=by simp[List.any_map,Function.comp_def]
 have hw:∀(i:Nat) (h:i<ms.length) (h':i<(p.msgs.map zDk).length) (b:Nat) (σ:List HP) (w:World),Rd ρ σ b (.cells [Value.func (.func 265) #[] #[]].toArray 43 (0,0))→St we ρ σ w →
  Cl Tryz.prog 266 (([]:List Value)++[Value.agg (msgL ms[i]).toArray]++[pP b]) w fun v w'=>v = .bool (p.msgs.map zDk)[i]∧St we ρ σ w':=by
  intro i h h' b σ w hb hS;obtain⟨m,v,e1,e2,e3⟩:=hr.at h;have e4:(p.msgs.map zDk)[i]=zDk m:=by
   rw[List.getElem_map];congr 1
   have:=List.getElem?_eq_some_iff.1 e1;exact this.2
  rw[e4,e2];exact zMg (x:=(m.who,v)) rfl e3 hb hS
 have hq:(p.msgs.map zDk).length=ms.length:=by simp[hlen]
 obtain⟨pm,cm,rfl,k1,k2,-⟩:=hlm.val;unfold maxLen at k2;refine Run.calls1 (n:=40) Tryz.func235 rfl rfl rfl ?_;repeat' first|(refine Ql ?_ (h:=Sx))|(refine Qv 267 (zNU hs hS) ?_;clear hS;intro w1 hS;refine RO.splitB ?_ ?_<;>(intro hb;skip))|(refine Qv 268 (zJU hl0 hS) ?_;clear hS;intro w1 hS;refine RO.splitB ?_ ?_<;>(intro hb;skip))|(refine Qv 268 (zJU hl1 hS) ?_;clear hS;intro w1 hS;refine RO.splitB ?_ ?_<;>(intro hb;skip))|(refine Qv 248 (zCp (cs:=[_]) (p.msgs.map zDk) hq hlm rfl (fun i h h' w hS=>hw i h h' _ _ _ (by exact Rd.any) hS) hS) ?_;clear hS;intro w1 hS;refine RO.splitB ?_ ?_<;>(intro hb;skip))|apply Qs|apply Qr|(apply Rs<;>intro hc<;>try exact No)|apply Qn|refine Ql ?_|(refine Qx ?_;clear hS;intro b w1 hS)|(refine Qa ?_;clear hS;intro b w1 hS)|(refine Qd ?_;clear hS;intro w1 hS)|refine Qy ?_|refine Qz ?_
 all_goals
  refine Qw Tryz.func235 ?_;refine⟨?_,hS.pk⟩;clear hS hw hr hlm;unfold zBS;rw[hlen]at *;rw[hany]at *;generalize p.msgs.any zDk=bb at *;generalize zGK p.name=b0 at *;generalize zI6 p.pre0=b1 at *;generalize zI6 p.pre1=b2 at *;generalize p.msgs.length=n at *;simp_all [tup];try omega
end
structure VS where
 e0:Bool
 s0:Bool
 e1:Bool
 s1:Bool
 m3:Bool
 m4:Bool
 m5:Bool
 m6:Bool
 m7:Bool
 mode:Bool
 keyed:Bool
deriving DecidableEq
def vsL (s:VS):List Value:=[.bool false,.bool s.e0,.bool s.s0,.bool false,.bool s.e1,.bool s.s1,.bool false,.bool false,.bool false,.bool s.m3,.bool s.m4,.bool s.m5,.bool s.m6,.bool s.m7,.bool s.mode,.bool s.keyed]
def VS.z:VS:=⟨false,false,false,false,false,false,false,false,false,false,false⟩
def zFa (s:VS)(who:Int):Int :=
 if((if who=0 then s.m5 else s.m4) && !s.m3)=true∨(s.m6 && !(if who=0 then s.m4 else s.m5))=true then 5
 else if(s.m7 && !(if who=0 then s.e0 else s.e1))=true then 6 else 0
def VS.has (s:VS)(who t:Int):Bool:=if who=0 then(if t=1 then s.e0 else s.s0) else(if t=1 then s.e1 else s.s1)
def VS.add (s:VS)(who t:Int):VS:=if who=0 then(if t=1 then { s with e0:=true } else { s with s0:=true }) else(if t=1 then { s with e1:=true } else { s with s1:=true })
def VS.met (s:VS)(t:Int):Bool:=if t=3 then s.m3 else if t=4 then s.m4 else if t=5 then s.m5 else if t=6 then s.m6 else s.m7
def VS.meet (s:VS)(t:Int):VS:=if t=3 then { s with m3:=true } else if t=4 then { s with m4:=true } else if t=5 then { s with m5:=true } else if t=6 then { s with m6:=true } else { s with m7:=true }
def zEM (t:Int):Int:=if t=3∨t=4 then 1 else 2
def zEL (t:Int):Int:=if t=3∨t=5 then 1 else 2
def zAx (s:VS)(who t:Int):VS × Int :=
 if t=1∨t=2 then
  if s.has who t=true then(s,2)
  else if t=2∧s.keyed=true∧0<zFa s who then(s,zFa s who)
  else({ s.add who t with keyed:=s.keyed || (decide (t=1) && s.mode) },0)
 else if t<7∧(s.has 0 (zEM t)=false∨s.has 1 (zEL t)=false)then(s,3)
 else if t<7∧s.met t=true then(s,4)
 else({ s.meet t with keyed:=true },0)
def zA2 (s:VS)(who:Int):List Int→VS × Int
 | []=>(s,0)
 | t::l=>if 0<(zAx s who t).2 then zAx s who t else zA2 (zAx s who t).1 who l
def msgV (s:VS)(m:Msg):VS × Int :=
 if 0<(zA2 s m.who m.t).2 then zA2 s m.who m.t
 else if(zA2 s m.who m.t).1.keyed=true then((zA2 s m.who m.t).1,zFa (zA2 s m.who m.t).1 m.who) else((zA2 s m.who m.t).1,0)
def endV (s:VS)(p:Pat):Int :=
 if s.keyed=false then 7
 else if p.msgs.length=1 then zFa s ((p.msgs.map Msg.who).getD 0 0)
 else if 0<zFa s 0 then zFa s 0 else zFa s 1
def preV (s:VS)(who:Int)(l:List Int):VS:=l.foldl (fun s t=>s.add who t) s
def zE0 (p:Pat):VS :=
 let s:=preV (preV VS.z 0 p.pre0) 1 p.pre1
 let mode:=p.msgs.any fun m=>decide ((7:Int)∈m.t)
 { s with mode:=mode,keyed:=mode && (s.e0 || s.e1) }
def zDc (p:Pat)(s:VS)(last:Int)(k:Int):List Msg→Int × Int × Int
 | []=>if 0<endV s p then(endV s p,k,13) else(0,0,0)
 | m::l=>if last=m.who then(1,k,13) else if 0<(msgV s m).2 then((msgV s m).2,k,13) else zDc p (msgV s m).1 m.who (k+1) l
def zCL (p:Pat):Int × Int × Int:=if zBS p=false then(0,0,1) else zDc p (zE0 p) 2 0 p.msgs
theorem zKW (s:VS)(who:Int):0≤zFa s who∧zFa s who≤6:=by unfold zFa;(repeat' split)<;>omega
section
variable {we w:World}{ρ:List (Nat × Obj)}{σ F:List HP}{v:Value}
theorem zDq {t:Int}(ht:t=3∨t=4∨t=5∨t=6)(hS:St we ρ σ w) :
 Cl Tryz.prog 286 [pI t] w fun u w'=>u = .agg #[pI (zEM t),pI (zEL t)]∧St we ρ σ w':=by
 rcases ht with rfl|rfl|rfl|rfl
 all_goals
  refine Run.calls1 (n:=10) Tryz.func286 rfl rfl rfl ?_;repeat' first|(refine Ql ?_ (h:=by apply Still.indexAgg;rfl;rfl;rfl;rfl;(exact zAi);omega;omega;rfl))|apply Qs|apply Qr|apply Qn|refine Ql ?_|(refine Qa ?_;clear hS;intro b w1 hS)|(refine Qd ?_;clear hS;intro w1 hS)
  refine Qw Tryz.func286 ?_;exact Xp
theorem zUl {b:Bool}{x y x' y':Int}(hb:(decide (x=x') && decide (y=y'))=b)(w:World) :
 (Op.equalIn 10000 96 (.agg #[pI x,pI y]) (.agg #[pI x',pI y'])).run Tryz.prog w = .ok b w:=by
 obtain⟨i,hi⟩:=info_of_underlying (P:=Tryz.prog) (t:=3) rfl;have hc:Tryz.prog.cellsOf 3=1:=by kernel_rfl
 rw[run_equalIn_array w 9999 _ _ (rfl:Tryz.prog.underlying 96=some (.array 2 3)) hi,← hb];have pi:∀(x y:Int),(Op.equalIn (9998+1) 3 (pI x) (pI y)).run Tryz.prog w = .ok (x == y) w:=fun x y=>zDu rfl
 show(Op.eqItems (9998+1) 3 (Tryz.prog.cellsOf 3) _ _ [0,1]).run Tryz.prog w=_;simp only[Op.eqItems,hc,Sem.run_bind,Nat.zero_mul,Nat.one_mul];rw[zAv (v:=pI x) (by rfl),Result.andThen_ok,zAv (v:=pI x') (by rfl),Result.andThen_ok,pi];by_cases h1:x=x'
 · by_cases h2:y=y'
   · simp[h1,h2,zAv (v:=pI y') (xs := #[pI x',pI y']) (off:=1) (w:=w) rfl,pi]
   · simp[h1,h2,zAv (v:=pI y') (xs := #[pI x',pI y']) (off:=1) (w:=w) rfl,zAv (v:=pI y) (xs := #[pI x',pI y]) (off:=1) (w:=w) rfl,pi]
 · simp[h1]
theorem zFA {who a b r:Int}(h:who=0∧a=2∧b=1∧r=5∨who=1∧a=2∧b=1∧r=4∨who=0∧a=1∧b=2∧r=4∨who=1∧a=1∧b=2∧r=5)(hS:St we ρ σ w) :
 Cl Tryz.prog 287 [pI who,pI a,pI b] w fun u w'=>u = pI r∧St we ρ σ w':=by
 rcases h with ⟨rfl,rfl,rfl,rfl⟩|⟨rfl,rfl,rfl,rfl⟩|⟨rfl,rfl,rfl,rfl⟩|⟨rfl,rfl,rfl,rfl⟩
 all_goals
  refine Run.calls3 (n:=26) Tryz.func287 rfl rfl rfl ?_;repeat' first|(refine Run.regionQ_of hS (by rfl) (by kernel_rfl) ?_;clear hS)|(apply RQ.callF;rfl;rfl;rfl;(show ∀w,_→Cl _ 286 _ _ _;exact fun w hS=>zDq (by decide) hS))|(refine RQ.still (by apply Still.eqlAt;rfl;rfl;(intro w;rfl);rfl;(intro w _;exact zUl (by rfl) w)) rfl ?_)|refine Run.loop ?_|refine Run.inLoop ?_|(refine RQ.nil ?_;(try clear hS);intro w1 hS)|refine RQ.still (by exact Still.any) rfl ?_|apply Qs|apply Qr|(apply Rs<;>intro hc<;>try exact No)|apply Qn|refine Ql ?_|(refine Qa ?_;clear hS;intro b w1 hS)|(refine Qd ?_;clear hS;intro w1 hS)|refine Qt ?_|refine Qf ?_|apply Qk|apply Qb|apply Qi
  refine Qw Tryz.func287 ?_;exact Xp
theorem zVJ (hS:St we ρ σ w):Cl Tryz.prog 287 [pI 0,pI 2,pI 1] w fun u w'=>u = pI 5∧St we ρ σ w':=zFA (by decide) hS
theorem zVI (hS:St we ρ σ w):Cl Tryz.prog 287 [pI 1,pI 2,pI 1] w fun u w'=>u = pI 4∧St we ρ σ w':=zFA (by decide) hS
theorem zVL (hS:St we ρ σ w):Cl Tryz.prog 287 [pI 0,pI 1,pI 2] w fun u w'=>u = pI 4∧St we ρ σ w':=zFA (by decide) hS
theorem zVK (hS:St we ρ σ w):Cl Tryz.prog 287 [pI 1,pI 1,pI 2] w fun u w'=>u = pI 5∧St we ρ σ w':=zFA (by decide) hS
end
end Go.Proofs.YtcikdogkkgefcaaGreatDoor
