/- Ops that the later layers need: min, max, what is held against nil, interfaces, a map's clone. More rules: delete, slicing, clear, conversions, remainders, texts' bytes, ranges over maps. -/
import Derived.Laws.Externs
import Derived.Maps.RangeRun
import Derived.Test.YtcikdogkkgefcaaGreatDoorMA02
namespace Go.Proofs.YtcikdogkkgefcaaGreatDoor
set_option maxRecDepth 8000
set_option maxHeartbeats 16000000
set_option linter.unusedVariables false
set_option linter.unusedSimpArgs false
open Go Go.RowKit
section
variable {P:Program}{f:FuncId}{n:Nat}{R:Ending→World→Prop}{k:List Item}{e:Env}{ty:TypeId}{x y z:Operand}{u v:Value}
variable {we w:World}{ρ:List (Nat × Obj)}{σ σ' F:List HP}{d:Nat}{pos:String}{aft:Array Edge}{gd:Option (Nat × Bool)}{K:Env→World→Prop}
theorem Still.maxI {q:IntKind}{i j c:Int}{ts:Array TypeId}{S:World→Prop}(hx:ev e x=some (.int q i))(hy:ev e y=some (.int q j))(hc:(if j>i then j else i)=c) :
 Still P n e S (.call { callee:=.builtin .max,args := #[x,y],argTypes:=ts }) ty (.int q c):=Still.mk fun a w ha _ d pos aft g=>by
 subst hc;simp[execOp,resolve,invoke,builtin,ha.ev hx,ha.ev hy,Builtin.max_,Builtin.max2]
theorem Still.minI {q:IntKind}{i j c:Int}{ts:Array TypeId}{S:World→Prop}(hx:ev e x=some (.int q i))(hy:ev e y=some (.int q j))(hc:(if j<i then j else i)=c) :
 Still P n e S (.call { callee:=.builtin .min,args := #[x,y],argTypes:=ts }) ty (.int q c):=Still.mk fun a w ha _ d pos aft g=>by
 subst hc;simp[execOp,resolve,invoke,builtin,ha.ev hx,ha.ev hy,Builtin.min_,Builtin.min2]
theorem zEW {dd:Nat}{t el:TypeId}{p:Option Addr}{l c:Nat}(h:P.underlying t=some (.slice el)):(Op.equalIn (dd+1) t (.slice p l c) (.slice none 0 0)).run P w = .ok p.isNone w:=by
 cases p<;>simp[Op.equalIn,run_underlying h]
theorem zCt {t el:TypeId}{p:Option Addr}{l c:Nat}(h:P.underlying t=some (.slice el)):(Op.equal t (.slice p l c) (.slice none 0 0)).run P w = .ok p.isNone w:=zEW (dd:=9999) h
theorem zFc {dd:Nat}{t kt et:TypeId}{p:Option Nat}(h:P.underlying t=some (.map kt et)):(Op.equalIn (dd+1) t (.map p) (.map none)).run P w = .ok p.isNone w:=by
 cases p<;>simp[Op.equalIn,run_underlying h]
theorem Still.sliceNil {t el t':TypeId}{p:Option Addr}{l c:Nat}{b:Bool}{S:World→Prop}(hx:ev e x=some (.slice p l c))(hy:ev e y=some (.slice none 0 0))(ht:zEv P t=some el)(hb:p.isNone=b) :
 Still P n e S (.binOp .eql t x y t') ty (.bool b):=by
 subst hb;refine Still.bin hx hy (fun w=>rfl) (fun w _=>?_);have h1:(Op.equal t (.slice p l c) (.slice none 0 0)).run P w = .ok p.isNone w:=zCt (zBi ht);simp[binOp,h1]
theorem Still.sliceNotNil {t el t':TypeId}{p:Option Addr}{l c:Nat}{b:Bool}{S:World→Prop}(hx:ev e x=some (.slice p l c))(hy:ev e y=some (.slice none 0 0))(ht:zEv P t=some el)(hb:p.isSome=b) :
 Still P n e S (.binOp .neq t x y t') ty (.bool b):=by
 subst hb;refine Still.bin hx hy (fun w=>rfl) (fun w _=>?_);have h1:(Op.equal t (.slice p l c) (.slice none 0 0)).run P w = .ok p.isNone w:=zCt (zBi ht);cases p<;>simp[binOp,h1]
theorem zGp {t kt et:TypeId}{p:Option Nat}(h:P.underlying t=some (.map kt et)):(Op.equal t (.map p) (.map none)).run P w = .ok p.isNone w:=zFc (dd:=9999) h
theorem Still.mapNil {t kt et t':TypeId}{p:Option Nat}{b:Bool}{S:World→Prop}(hx:ev e x=some (.map p))(hy:ev e y=some (.map none))(ht:P.underlying t=some (.map kt et))(hb:p.isNone=b) :
 Still P n e S (.binOp .eql t x y t') ty (.bool b):=by
 subst hb;refine Still.bin hx hy (fun w=>rfl) (fun w _=>?_);simp[binOp,zGp (P:=P) (w:=w) (p:=p) ht]
theorem Still.ptrNil {t t':TypeId}{p:Option Addr}{b:Bool}{S:World→Prop}(hx:ev e x=some (.pointer p))(hy:ev e y=some (.pointer none))(ht:P.underlying t=some (.pointer (P.pointee t)))(hb:p.isNone=b) :
 Still P n e S (.binOp .eql t x y t') ty (.bool b):=by
 subst hb;refine Still.bin hx hy (fun w=>rfl) (fun w _=>?_);simp[binOp,run_equal_pointer_nil (P:=P) w t p ht]
theorem zF9 {t xt kt et:TypeId}(h:P.underlying t=some (.map kt et)):(Instr.typeAssert (.iface t v) xt t false).run P w = .ok v w:=by
 simp[Instr.typeAssert,run_underlying h]
theorem Still.makeInterface {t:TypeId}{S:World→Prop}(hx:ev e x=some v)(ht:P.concrete t=true):Still P n e S (.makeInterface t x) ty (.iface t v):=Still.mk fun a w ha _ d pos aft g=>by
 simp only[execOp,ha.ev hx,Sem.run_bind,run_makeInterface w t v ht,Result.andThen_ok,Sem.run_pure]
theorem Still.assertMap {t xt kt et:TypeId}{S:World→Prop}(hx:ev e x=some (.iface t v))(ht:P.underlying t=some (.map kt et)):Still P n e S (.typeAssert x xt t false) ty v:=Still.mk fun a w ha _ d pos aft g=>by
 simp only[execOp,ha.ev hx,Sem.run_bind,zF9 (P:=P) (w:=w) (xt:=xt) (v:=v) ht,Result.andThen_ok,Sem.run_pure]
end
section
open Go.ChangeMaps (setBlock)
section
variable {P:Program}{f:FuncId}{n:Nat}{R:Ending→World→Prop}{k:List Item}{e:Env}{ty:TypeId}{x y z:Operand}{u v:Value}
variable {we w:World}{ρ:List (Nat × Obj)}{σ σ' F:List HP}{d:Nat}{pos:String}{aft:Array Edge}{gd:Option (Nat × Bool)}{K:Env→World→Prop}
theorem Still.sliceHi {t el:TypeId}{b off len cap m:Nat}{q:IntKind}{i:Int}{S:World→Prop}(hx:ev e x=some (.slice (some ⟨b,off,none⟩) len cap))(hy:ev e y=some (.int q i))(ht:zEv P t=some el)(hs:zDm P el=some m)
 (h0:0≤i) (h1:i≤cap) {j:Nat} (hj:i.toNat=j):Still P n e S (.slice t x none (some y) none) ty (.slice (some ⟨b,off,none⟩) j cap):=Still.mk fun a w ha _ d pos aft g=>by
 subst hj;simp only[execOp,ha.ev hx,Option.map_some,Option.map_none,ha.ev hy,Instr.sliceAt,Instr.slice,Sem.run_bind,run_underlying (zBi ht),Result.andThen_ok,Instr.sliceBounds,Instr.sliceBound,asIntOf,Sem.run_pure];simp[h0,h1,zBZ hs,Addr.add_lit]
theorem Still.sliceLo {t el:TypeId}{b off len cap m:Nat}{q:IntKind}{i:Int}{S:World→Prop}(hx:ev e x=some (.slice (some ⟨b,off,none⟩) len cap))(hy:ev e y=some (.int q i))(ht:zEv P t=some el)(hs:zDm P el=some m)
 (h0:0≤i) (h1:i≤len) (h2:i<cap) {o l c:Nat} (ho:off+i.toNat*m=o) (hl:len - i.toNat=l) (hc:cap - i.toNat=c):Still P n e S (.slice t x (some y) none none) ty (.slice (some ⟨b,o,none⟩) l c):=Still.mk fun a w ha _ d pos aft g=>by
 subst ho hl hc;simp only[execOp,ha.ev hx,Option.map_some,Option.map_none,ha.ev hy,Instr.sliceAt,Instr.slice,Sem.run_bind,run_underlying (zBi ht),Result.andThen_ok,Instr.sliceBounds,Instr.sliceBound,asIntOf,Sem.run_pure];have h3:¬cap=i.toNat:=by omega
 simp[h0,h1,zBZ hs,Addr.add_lit,h3]
theorem Still.indexAddrA {t el:TypeId}{b off len m o:Nat}{q:IntKind}{i:Int}{S:World→Prop}(hx:ev e x=some (.pointer (some ⟨b,off,none⟩)))(hy:ev e y=some (.int q i))(ht:P.underlying t=some (.array len el))(hs:zDm P el=some m)
 (h0:0≤i) (h1:i<len) (ho:off+i.toNat*m=o):Still P n e S (.indexAddr t x y) ty (.pointer (some ⟨b,o,none⟩)):=Still.mk fun a w ha _ d pos aft g=>by
 subst ho;simp only[execOp,ha.ev hx,ha.ev hy,Instr.indexAt,asIntOf,Sem.run_bind,Sem.run_pure,Result.andThen_ok,run_underlying ht];simp[h0,h1,zBZ hs,Addr.add_lit,Instr.sureAddr]
theorem Still.rem {t t':TypeId}{k:IntKind}{p q c:Int}{S:World→Prop}(hx:ev e x=some (.int k p))(hy:ev e y=some (.int k q))(h0:q≠0)(hc:p.tmod q=c):Still P n e S (.binOp .rem t x y t') ty (.int k c):=by
 subst hc;refine Still.bin hx hy (zOn .rem p q) (fun w _=>?_);simp[binOp,Op.intDiv,h0]
theorem Still.conv {s dt:TypeId}{k k':IntKind}{p c:Int}{us:TypeDesc}{S:World→Prop}(hx:ev e x=some (.int k' p))(hs:P.underlying s=some us)(hd:P.underlying dt=some (.int k))(hc:k.wrap p=c):Still P n e S (.convert s dt x) ty (.int k c):=Still.mk fun a w ha _ d pos aft g=>by
 subst hc;simp[execOp,ha.ev hx,convert,run_underlying hs,run_underlying hd,Conv.intToInt]
theorem Still.byteAt {t:TypeId}{s:ByteArray}{q:IntKind}{i:Int}{S:World→Prop}(hx:ev e x=some (.string s))(hy:ev e y=some (.int q i))(ht:P.underlying t=some .string)(h0:0≤i)(h1:i.toNat<s.size):Still P n e S (.index t x y) ty (.int .u8 (s[i.toNat]'h1).toNat):=Still.mk fun a w ha _ d pos aft g=>by
 simp only[execOp,ha.ev hx,ha.ev hy,Instr.index,asIntOf,Sem.run_bind,Sem.run_pure,Result.andThen_ok,run_underlying ht];simp[h0,getElem?_pos,h1]
theorem OP.range {t kt et:TypeId}{m clock:Nat}{es:Array MapEntry}(hS:St we ρ σ w)(hx:ev e x=some (.map (some m)))(ht:P.underlying t=some (.map kt et))(hm:Rd ρ σ m (.map es clock))(hd:Nat.blt d n=true)
 (hk:∀r w1,St we ρ (Blk r (.mapIter (some m) clock #[] clock) :: σ) w1→K ((d,pP r)::e) w1):OP P n ⟨some d,.range t x,ty,pos,aft,gd⟩ e w K :=
 OP.put (fun a ha=>by
  simp only[execOp,ha.ev hx,Sem.run_bind,run_range_map w t kt et m es clock ht (hS.rd hm),Result.andThen_ok,Sem.run_pure]) hd (hk _ _ (hS.alloc _))
theorem OP.next {m r clock c0:Nat}{es:Array MapEntry}{seen:Array Nat}(hS:St we ρ σ w)(hx:ev e x=some (pP r))(hT:Take (Blk r (.mapIter (some m) clock seen c0)) σ F)(hm:Rd ρ F m (.map es clock))(hold:∀x∈es.toList,x.born<clock)(hsc:clock≤c0)(hd:Nat.blt d n=true)
 (hend:(∀x∈es.toList,x.born∈seen.toList)→K ((d,.tuple #[.bool false])::e) w)
 (hmore:∀en∈es.toList,en.born∉seen.toList→∀w1,St we ρ (Blk r (.mapIter (some m) clock (seen.push en.born) clock)::F) w1→K ((d,.tuple #[.bool true,en.key,en.val])::e) w1) :
 OP P n ⟨some d,.next x false,ty,pos,aft,gd⟩ e w K:=by
 have hS1:=hS.take hT;have hr:=hS1.lt .head;have hmm:=hS1.tail.rd hm;rcases run_next_at (P:=P) w ty r m clock c0 seen es clock hr hmm hold hsc with ⟨h0,hrun⟩|⟨en,hen,w1,hw1,hrun⟩
 · refine OP.put (fun a ha=>?_) hd (hend fun y hy=>?_)
   · simp only[execOp,ha.ev hx,Sem.run_bind,hrun,Result.andThen_ok,Sem.run_pure]
   · have:leftOf es seen = #[]:=Array.eq_empty_of_size_eq_zero h0
     unfold leftOf at this;rw[Array.filter_eq_empty_iff]at this;have:=this y (by simpa using hy);simpa using this
 · unfold leftOf at hen
   simp only[Array.toList_filter,List.mem_filter,Bool.not_eq_true',Array.contains_eq_mem]at hen;refine OP.put (fun a ha=>?_) hd (hmore en hen.1 (by simpa using hen.2) (setBlock w1 r (.mapIter (some m) clock (seen.push en.born) clock)) ?_)
   · simp only[execOp,ha.ev hx,Sem.run_bind,hrun,Result.andThen_ok,Sem.run_pure]
   · have hS2:St we ρ (Blk r (.mapIter (some m) clock seen c0)::F) w1:=by
      rcases hw1 with rfl|rfl
      · exact hS1
      · exact hS1.drew
     have hr2:=hS2.lt .head;have hlt:r<w1.heap.size:=(Array.getElem?_eq_some_iff.1 hr2).1;exact hS2.write .head rfl rfl rfl (by simp[setBlock]) (by simp[setBlock,hlt]) (fun k hk=>by simp[setBlock,Array.getElem?_setIfInBounds,Ne.symm hk])
theorem Still.entry {m r clock:Nat}{es:Array MapEntry}{seen:Array Nat}{en:MapEntry}(hx:ev e x=some (pP r))(hr:Rd ρ σ r (.mapIter (some m) clock (seen.push en.born) clock))(hm:Rd ρ σ m (.map es clock))(he:en∈es.toList)(hn:(es.toList.map (·.born)).Nodup) :
 Still P n e (St we ρ σ) (.entry x) ty (.tuple #[en.key,en.val]):=Still.mk fun a w ha hS d pos aft g=>by
 simp only[execOp,ha.ev hx,Sem.run_bind,run_entry_at w r m clock seen es clock en (hS.rd hr) (hS.rd hm) he hn,Result.andThen_ok,Sem.run_pure]
end
end
theorem zAi {a:Option Nat}{m:Nat}(h:a=some m:=by first|exact Eq.refl (some 0)|exact Eq.refl (some 1)|exact Eq.refl (some 2)|exact Eq.refl (some 3)|exact Eq.refl (some 4)|exact Eq.refl (some 5)|exact Eq.refl (some 6)|exact Eq.refl (some 7)|exact Eq.refl (some 8)|exact Eq.refl (some 9)|exact Eq.refl (some 10)|exact Eq.refl (some 11)|exact zDB rfl|exact zAF (k:=1) rfl|exact zAF (k:=2) rfl|exact zAF (k:=3) rfl|exact zAF (k:=4) rfl|exact zAF (k:=5) rfl|exact zAF (k:=6) rfl|exact zAF (k:=7) rfl|exact zAF (k:=8) rfl|exact zAF (k:=9) rfl|exact zAF (k:=10) rfl|exact zAF (k:=11) rfl|rfl):a=some m:=h
theorem Rd.any {ρ:List (Nat × Obj)}{σ:List HP}{b:Nat}{o:Obj}(h:Rd ρ σ b o:=by first|(focus(apply Rd.own;(repeat(first|apply Has.head|apply Has.tail));done))|(focus(apply Rd.ro;(repeat(first|apply List.Mem.head|apply List.Mem.tail));done))|(focus((repeat(first|assumption|apply Rd.tail));done))):Rd ρ σ b o:=h
theorem Still.any {P:Program}{n:Nat}{e:Env}{S:World→Prop}{op:Op}{ty:TypeId}{v:Value}(h:Still P n e S op ty v:=by first|(apply Still.move;rfl)|(apply Still.assign;rfl)|(apply Still.load;rfl;rfl;(first|(focus(apply Rd.own;(repeat(first|apply Has.head|apply Has.tail));done))|(focus(apply Rd.ro;(repeat(first|apply List.Mem.head|apply List.Mem.tail));done))|(focus((repeat(first|assumption|apply Rd.tail));done)));(first|rfl|exact zDI (by assumption)|exact zDH (by assumption)|exact zDG (by assumption)|exact zDF (by assumption)|exact zDE (by assumption)))|(apply Still.fieldAddr;rfl;(first|exact Eq.refl (some 0)|exact Eq.refl (some 1)|exact Eq.refl (some 2)|exact Eq.refl (some 3)|exact Eq.refl (some 4)|exact Eq.refl (some 5)|exact Eq.refl (some 6)|exact Eq.refl (some 7)|exact Eq.refl (some 8)|exact Eq.refl (some 9)|exact Eq.refl (some 10)|exact Eq.refl (some 11)|exact zDB rfl|exact zAF (k:=1) rfl|exact zAF (k:=2) rfl|exact zAF (k:=3) rfl|exact zAF (k:=4) rfl|exact zAF (k:=5) rfl|exact zAF (k:=6) rfl|exact zAF (k:=7) rfl|exact zAF (k:=8) rfl|exact zAF (k:=9) rfl|exact zAF (k:=10) rfl|exact zAF (k:=11) rfl|rfl))|(apply Still.nilCheck;rfl)|(apply Still.extract;rfl;rfl)|(apply Still.loadAgg;rfl;rfl;(first|exact Eq.refl (some 0)|exact Eq.refl (some 1)|exact Eq.refl (some 2)|exact Eq.refl (some 3)|exact Eq.refl (some 4)|exact Eq.refl (some 5)|exact Eq.refl (some 6)|exact Eq.refl (some 7)|exact Eq.refl (some 8)|exact Eq.refl (some 9)|exact Eq.refl (some 10)|exact Eq.refl (some 11)|exact zDB rfl|exact zAF (k:=1) rfl|exact zAF (k:=2) rfl|exact zAF (k:=3) rfl|exact zAF (k:=4) rfl|exact zAF (k:=5) rfl|exact zAF (k:=6) rfl|exact zAF (k:=7) rfl|exact zAF (k:=8) rfl|exact zAF (k:=9) rfl|exact zAF (k:=10) rfl|exact zAF (k:=11) rfl|rfl);(first|(focus(apply Rd.own;(repeat(first|apply Has.head|apply Has.tail));done))|(focus(apply Rd.ro;(repeat(first|apply List.Mem.head|apply List.Mem.tail));done))|(focus((repeat(first|assumption|apply Rd.tail));done)));(first|exact zCd (by assumption)|rfl);rfl)|(apply Still.pickT;rfl;rfl)|(apply Still.pickF;rfl;rfl)|(apply Still.lss;rfl;rfl)|(apply Still.leq;rfl;rfl)|(apply Still.gtr;rfl;rfl)|(apply Still.geq;rfl;rfl)|(apply Still.eql;rfl;rfl)|(apply Still.neq;rfl;rfl)|(apply Still.not;rfl;rfl)|(apply Still.add;rfl;rfl;(first|exact zA8 (by omega) (by omega)|exact zF1 (by omega) (by omega)|rfl))|(apply Still.sub;rfl;rfl;(first|exact zA8 (by omega) (by omega)|exact zF1 (by omega) (by omega)|rfl))|(apply Still.mul;rfl;rfl;(first|exact zA8 (by omega) (by omega)|exact zF1 (by omega) (by omega)|rfl))|(apply Still.makeFunc;rfl;rfl)|(apply Still.lenSlice;rfl;rfl)|(apply Still.lenString;rfl;rfl)|(apply Still.build;rfl;rfl)|(apply Still.indexAddr;rfl;rfl;rfl;(first|exact Eq.refl (some 0)|exact Eq.refl (some 1)|exact Eq.refl (some 2)|exact Eq.refl (some 3)|exact Eq.refl (some 4)|exact Eq.refl (some 5)|exact Eq.refl (some 6)|exact Eq.refl (some 7)|exact Eq.refl (some 8)|exact Eq.refl (some 9)|exact Eq.refl (some 10)|exact Eq.refl (some 11)|exact zDB rfl|exact zAF (k:=1) rfl|exact zAF (k:=2) rfl|exact zAF (k:=3) rfl|exact zAF (k:=4) rfl|exact zAF (k:=5) rfl|exact zAF (k:=6) rfl|exact zAF (k:=7) rfl|exact zAF (k:=8) rfl|exact zAF (k:=9) rfl|exact zAF (k:=10) rfl|exact zAF (k:=11) rfl|rfl);omega;omega;(first|(simp only[Int.toNat_natCast,Nat.mul_one,Nat.zero_add,Int.reduceToNat,Nat.reduceMul,Nat.reduceAdd,Nat.zero_mul];exact rfl)|rfl))|(apply Still.eqlB;rfl;rfl;rfl)|(apply Still.neqB;rfl;rfl;rfl)|(apply Still.eqlS;rfl;rfl)|(apply Still.neqS;rfl;rfl)|(apply Still.nilCheckF;rfl)|(apply Still.index;rfl;rfl;rfl;rfl;(first|exact Eq.refl (some 0)|exact Eq.refl (some 1)|exact Eq.refl (some 2)|exact Eq.refl (some 3)|exact Eq.refl (some 4)|exact Eq.refl (some 5)|exact Eq.refl (some 6)|exact Eq.refl (some 7)|exact Eq.refl (some 8)|exact Eq.refl (some 9)|exact Eq.refl (some 10)|exact Eq.refl (some 11)|exact zDB rfl|exact zAF (k:=1) rfl|exact zAF (k:=2) rfl|exact zAF (k:=3) rfl|exact zAF (k:=4) rfl|exact zAF (k:=5) rfl|exact zAF (k:=6) rfl|exact zAF (k:=7) rfl|exact zAF (k:=8) rfl|exact zAF (k:=9) rfl|exact zAF (k:=10) rfl|exact zAF (k:=11) rfl|rfl);omega;omega;(first|(simp only[Int.toNat_natCast,Nat.mul_one,Nat.zero_add,Int.reduceToNat,Nat.reduceMul,Nat.reduceAdd,Nat.zero_mul];exact rfl)|rfl);rfl)|(apply Still.sliceNil;rfl;rfl;rfl;rfl)|(apply Still.sliceNotNil;rfl;rfl;rfl;rfl)|(apply Still.mapNil;rfl;rfl;rfl;rfl)|(apply Still.ptrNil;rfl;rfl;rfl;rfl)|(apply Still.makeInterface;rfl;rfl)|(apply Still.assertMap;rfl;rfl)|(apply Still.maxI;rfl;rfl;rfl)|(apply Still.minI;rfl;rfl;rfl)):Still P n e S op ty v:=h
section
variable {P:Program}{f:FuncId}{n:Nat}{R:Ending→World→Prop}{k:List Item}{e:Env}{w we:World}{ρ:List (Nat × Obj)}{σ σ' F F':List HP}{A B:HP}{K:Env→World→Prop}{ops rest:List Oper}
 {d:Nat} {op:Op} {ty:TypeId} {pos:String} {aft:Array Edge} {v:Value} {gd:Option (Nat × Bool)}
theorem St.tk (h:St we ρ σ w)(ht:Take A σ F:=by first|(focus((repeat(first|apply Has.head|apply Take.head|apply Put.head|apply Has.tail|apply Take.tail|apply Put.tail));done))|fail):St we ρ (A::F) w:=h.take ht
theorem St.tk2 (h:St we ρ σ w)(ht:Take A σ F:=by first|(focus((repeat(first|apply Has.head|apply Take.head|apply Put.head|apply Has.tail|apply Take.tail|apply Put.tail));done))|fail)(ht':Take B F F':=by first|(focus((repeat(first|apply Has.head|apply Take.head|apply Put.head|apply Has.tail|apply Take.tail|apply Put.tail));done))|fail):St we ρ (A::B::F') w:=h.take2 ht ht'
theorem St.pk (h:St we ρ σ w)(hp:Picks σ' σ:=by first|(focus((repeat(first|apply Picks.all|apply Picks.nil|(refine Picks.cons (by repeat(first|apply Take.head|apply Take.tail)) ?_)|apply Picks.drop));done))|fail):St we ρ σ' w:=h.picks hp
theorem Hb (h : σ'.Sublist σ:=by first|((repeat(first|exact List.Sublist.refl _|refine .cons_cons _ ?_|refine .cons _ ?_));done)|fail) : σ'.Sublist σ:=h
theorem St.hd (h:St we ρ σ w)(hp : σ'.Sublist σ:=by exact Hb):St we ρ σ' w:=h.sublist hp
theorem Sb {e e':Env}(h:Sub e e':=by first|(focus((repeat(first|exact .nil|refine .cons rfl ?_));done))|fail):Sub e e':=h
theorem eqB {a:Option Nat}{m:Nat}(h:a=some m:=by first|exact Eq.refl (some 12)|exact Eq.refl (some 13)|exact Eq.refl (some 14)|exact Eq.refl (some 15)|exact Eq.refl (some 16)|exact Eq.refl (some 17)|exact Eq.refl (some 18)|exact Eq.refl (some 19)|exact Eq.refl (some 20)|exact Eq.refl (some 21)|exact Eq.refl (some 22)|exact Eq.refl (some 23)|exact Eq.refl (some 24)|exact Eq.refl (some 25)|exact Eq.refl (some 26)|exact Eq.refl (some 27)|exact Eq.refl (some 28)|exact Eq.refl (some 29)|exact Eq.refl (some 30)|exact Eq.refl (some 31)|exact Eq.refl (some 32)|exact Eq.refl (some 33)|exact Eq.refl (some 34)|exact Eq.refl (some 35)|exact Eq.refl (some 36)|exact Eq.refl (some 37)|exact Eq.refl (some 38)|exact Eq.refl (some 39)|exact Eq.refl (some 40)|exact Eq.refl (some 41)|exact Eq.refl (some 42)|exact Eq.refl (some 43)|exact Eq.refl (some 44)|exact Eq.refl (some 45)|exact Eq.refl (some 46)|exact Eq.refl (some 47)|exact Eq.refl (some 48)|exact Eq.refl (some 49)|exact Eq.refl (some 50)):a=some m:=h
theorem Still.an {S:World→Prop}(h:Still P n e S op ty v:=by first|(apply Still.sub;rfl;rfl;assumption)|exact Still.any|(apply Still.load;rfl;rfl;(exact Rd.any);assumption)|(apply Still.loadAgg;rfl;rfl;(exact zAi);(exact Rd.any);assumption;rfl)|(apply Still.loadAgg;rfl;rfl;exact eqB;(exact Rd.any);rfl;rfl)|(apply Still.fieldAddr;rfl;exact eqB)):Still P n e S op ty v:=h
theorem Ol {S:World→Prop}(hk:K ((d,v)::e) w)(hS:S w:=by exact hS)(h:Still P n e S op ty v:=by exact Still.any)(hd:Nat.blt d n=true:=by rfl):OP P n ⟨some d,op,ty,pos,aft,gd⟩ e w K:=OP.still h hS hd hk
theorem Om {S:World→Prop}(hk:K ((d,v)::e) w)(hS:S w:=by exact hS)(h:Still P n e S op ty v:=by exact Still.an)(hd:Nat.blt d n=true:=by rfl):OP P n ⟨some d,op,ty,pos,aft,gd⟩ e w K:=OP.still h hS hd hk
theorem Ql {S:World→Prop}(hk:RO P f n R k ops rest ((d,v)::e) w)(hS:S w:=by exact hS)(h:Still P n e S op ty v:=by exact Still.any)(hd:Nat.blt d n=true:=by rfl) :
 RO P f n R k ops (⟨some d,op,ty,pos,aft,none⟩::rest) e w:=RO.still h hS hd hk
theorem Qm {S:World→Prop}(hk:RO P f n R k ops rest ((d,v)::e) w)(hS:S w:=by exact hS)(h:Still P n e S op ty v:=by exact Still.an)(hd:Nat.blt d n=true:=by rfl) :
 RO P f n R k ops (⟨some d,op,ty,pos,aft,none⟩::rest) e w:=RO.still h hS hd hk
theorem Oc (g:FuncId){args:List Operand}{ts:Array TypeId}{vs:List Value}{Φ:Value→World→Prop}(h:fnB P g=true:=by rfl)(hx:evs e args=some vs:=by rfl)(hd:Nat.blt d n=true:=by rfl)(c:Cl P g vs w Φ)(k':∀v w',Φ v w'→K ((d,v)::e) w') :
 OP P n ⟨some d,.call { callee:=.value (.func g),args:=args.toArray,argTypes:=ts },ty,pos,aft,gd⟩ e w K:=OP.callF h hx hd c k'
theorem Qc (g:FuncId){args:List Operand}{ts:Array TypeId}{vs:List Value}{Φ:Value→World→Prop}(h:fnB P g=true:=by rfl)(hx:evs e args=some vs:=by rfl)(hd:Nat.blt d n=true:=by rfl)(c:Cl P g vs w Φ)(k':∀v w',Φ v w'→RO P f n R k ops rest ((d,v)::e) w') :
 RO P f n R k ops (⟨some d,.call { callee:=.value (.func g),args:=args.toArray,argTypes:=ts },ty,pos,aft,none⟩::rest) e w:=RO.op (OP.callF h hx hd c k')
theorem Ox {t:TypeId}{l:List Value}{x:Operand}(hk:∀b w1,St we ρ (Row b l t :: σ) w1→K ((d,pP b)::e) w1)(hS:St we ρ σ w:=by exact hS)(hx:ev e x=some v:=by rfl)(hv:v.cells=l.toArray:=by rfl)(hd:Nat.blt d n=true:=by rfl) :
 OP P n ⟨some d,.box t x,ty,pos,aft,gd⟩ e w K:=OP.box hS hx hv hd hk
theorem Qx {t:TypeId}{l:List Value}{x:Operand}(hk:∀b w1,St we ρ (Row b l t :: σ) w1→RO P f n R k ops rest ((d,pP b)::e) w1)(hS:St we ρ σ w:=by exact hS)(hx:ev e x=some v:=by rfl)(hv:v.cells=l.toArray:=by rfl)(hd:Nat.blt d n=true:=by rfl) :
 RO P f n R k ops (⟨some d,.box t x,ty,pos,aft,none⟩::rest) e w:=RO.op (OP.box hS hx hv hd hk)
theorem Oa {t:TypeId}{z:Value}{l:List Value}(hk:∀b w1,St we ρ (Row b l t :: σ) w1→K ((d,pP b)::e) w1)(hS:St we ρ σ w:=by exact hS)(hz:zGk P t=some z:=by rfl)(hv:z.cells=l.toArray:=by rfl)(hd:Nat.blt d n=true:=by rfl) :
 OP P n ⟨some d,.alloc t,ty,pos,aft,gd⟩ e w K:=OP.alloc hS hz hv hd hk
theorem Qa {t:TypeId}{z:Value}{l:List Value}(hk:∀b w1,St we ρ (Row b l t :: σ) w1→RO P f n R k ops rest ((d,pP b)::e) w1)(hS:St we ρ σ w:=by exact hS)(hz:zGk P t=some z:=by rfl)(hv:z.cells=l.toArray:=by rfl)(hd:Nat.blt d n=true:=by rfl) :
 RO P f n R k ops (⟨some d,.alloc t,ty,pos,aft,none⟩::rest) e w:=RO.op (OP.alloc hS hz hv hd hk)
theorem Oq {t:TypeId}(hk:∀b w1,St we ρ (Blk b (.map #[] 0) :: σ) w1→K ((d,.map (some b))::e) w1)(hS:St we ρ σ w:=by exact hS)(hd:Nat.blt d n=true:=by rfl):OP P n ⟨some d,.makeMap t none,ty,pos,aft,gd⟩ e w K:=OP.makeMap hS hd hk
theorem Qp {t:TypeId}(hk:∀b w1,St we ρ (Blk b (.map #[] 0) :: σ) w1→RO P f n R k ops rest ((d,.map (some b))::e) w1)(hS:St we ρ σ w:=by exact hS)(hd:Nat.blt d n=true:=by rfl) :
 RO P f n R k ops (⟨some d,.makeMap t none,ty,pos,aft,none⟩::rest) e w:=RO.op (OP.makeMap hS hd hk)
theorem Og {t el m:TypeId}{len:Nat}{parts:List (Nat × Operand)}{vs:List (Nat × Value)}{l:List Value}{z:Value}(hk:∀b w1,St we ρ (Row b l el :: σ) w1→K ((d,.slice (some ⟨b,0,none⟩) len len)::e) w1)
 (hS:St we ρ σ w:=by exact hS) (ht:zEv P t=some el:=by rfl) (hx:zER e parts=some vs:=by rfl) (hsz:zDm P el=some m:=by exact zAi) (hz:zGk P el=some z:=by rfl) (hn:vs.length=len:=by rfl) (h24:Nat.ble (len*m) 16777216=true:=by rfl) (hb:zGB m 0 vs=some l:=by rfl) (hd:Nat.blt d n=true:=by rfl) :
 OP P n ⟨some d,.buildSlice t len parts.toArray,ty,pos,aft,gd⟩ e w K:=OP.buildSlice hS ht hx hsz hz hn h24 hb hd hk
theorem Qg {t el m:TypeId}{len:Nat}{parts:List (Nat × Operand)}{vs:List (Nat × Value)}{l:List Value}{z:Value}(hk:∀b w1,St we ρ (Row b l el :: σ) w1→RO P f n R k ops rest ((d,.slice (some ⟨b,0,none⟩) len len)::e) w1)
 (hS:St we ρ σ w:=by exact hS) (ht:zEv P t=some el:=by rfl) (hx:zER e parts=some vs:=by rfl) (hsz:zDm P el=some m:=by exact zAi) (hz:zGk P el=some z:=by rfl) (hn:vs.length=len:=by rfl) (h24:Nat.ble (len*m) 16777216=true:=by rfl) (hb:zGB m 0 vs=some l:=by rfl) (hd:Nat.blt d n=true:=by rfl) :
 RO P f n R k ops (⟨some d,.buildSlice t len parts.toArray,ty,pos,aft,none⟩::rest) e w:=RO.op (OP.buildSlice hS ht hx hsz hz hn h24 hb hd hk)
theorem Od {t:TypeId}{b off:Nat}{el:TypeId}{l l' vs:List Value}{x y:Operand}(hk:∀w1,St we ρ σ' w1→K e w1)(hS:St we ρ σ w:=by exact hS)(hx:ev e x=some (.pointer (some ⟨b,off,none⟩)):=by rfl)(hy:ev e y=some v:=by rfl)(hv:v.cells=vs.toArray:=by rfl)
 (hs:zDm P t=some vs.length:=by rfl) (h1:vs.all one=true:=by rfl) (hp:Put (Row b l el) (Row b l' el) σ σ':=by first|(focus((repeat(first|apply Has.head|apply Take.head|apply Put.head|apply Has.tail|apply Take.tail|apply Put.tail));done))|fail) (hl:Nat.ble (off+vs.length) l.length=true:=by rfl) (hl':l.take off++vs++l.drop (off+vs.length)=l':=by rfl) :
 OP P n ⟨none,.store t x y,ty,pos,aft,gd⟩ e w K:=OP.store hS hx hy hv hs h1 hp hl hl' hk
theorem Qd {t:TypeId}{b off:Nat}{el:TypeId}{l l' vs:List Value}{x y:Operand}(hk:∀w1,St we ρ σ' w1→RO P f n R k ops rest e w1)(hS:St we ρ σ w:=by exact hS)(hx:ev e x=some (.pointer (some ⟨b,off,none⟩)):=by rfl)(hy:ev e y=some v:=by rfl)(hv:v.cells=vs.toArray:=by rfl)
 (hs:zDm P t=some vs.length:=by rfl) (h1:vs.all one=true:=by rfl) (hp:Put (Row b l el) (Row b l' el) σ σ':=by first|(focus((repeat(first|apply Has.head|apply Take.head|apply Put.head|apply Has.tail|apply Take.tail|apply Put.tail));done))|fail) (hl:Nat.ble (off+vs.length) l.length=true:=by rfl) (hl':l.take off++vs++l.drop (off+vs.length)=l':=by rfl) :
 RO P f n R k ops (⟨none,.store t x y,ty,pos,aft,none⟩::rest) e w:=RO.op (OP.store hS hx hy hv hs h1 hp hl hl' hk)
theorem Qy {dst:Option Nat}{j t:Nat}{b:Bool}(hk:RO P f n R k ops (⟨dst,op,ty,pos,aft,none⟩::rest) e w)(hj:((ops[j]?).bind (·.dst))=some t:=by rfl)(ht:e.get t=some (.bool b):=by rfl):RO P f n R k ops (⟨dst,op,ty,pos,aft,some (j,b)⟩::rest) e w:=RO.yes hj ht hk
theorem Qs {x y:Code}(h:Run P f n R (.code x::.code y::k) e w):Run P f n R (.code (.seq x y)::k) e w:=h.seq
theorem Qr {id:Nat}{l:List Oper}(h:RO P f n R k l l e w):Run P f n R (.code (.region id l.toArray false)::k) e w:=Run.region h
theorem Qn (h:Run P f n R k e w):RO P f n R k ops [] e w:=RO.nil h
theorem Qk (h:Run P f n R k e w):Run P f n R (.code .skip::k) e w:=h.skip
theorem Qb {id:Nat}{c:Code}(h:Run P f n R (.code c::.inBlock id::k) e w):Run P f n R (.code (.block id c)::k) e w:=Run.block h
theorem Qi {id:Nat}(h:Run P f n R k e w):Run P f n R (.inBlock id::k) e w:=Run.inBlock h
theorem Qe {id:Nat}{k':List Item}(h:Run P f n R k' e w)(hx:exitTo id k=some k':=by rfl):Run P f n R (.code (.exit id)::k) e w:=Run.exit hx h
theorem Qt {c:Operand}{x y:Code}(h1:Run P f n R (.code x::k) e w)(hc:ev e c=some (.bool true):=by rfl):Run P f n R (.code (.cond c x y)::k) e w:=Run.cond_true hc h1
theorem Qf {c:Operand}{x y:Code}(h1:Run P f n R (.code y::k) e w)(hc:ev e c=some (.bool false):=by rfl):Run P f n R (.code (.cond c x y)::k) e w:=Run.cond_false hc h1
theorem Qz {j t:Nat}{b c:Bool}(hk:RO P f n R k ops rest ((d,undef)::e) w)(hj:((ops[j]?).bind (·.dst))=some t:=by rfl)(ht:e.get t=some (.bool c):=by rfl)(hd:Nat.blt d n=true:=by rfl)(hne:(c == b)=false:=by rfl) :
 RO P f n R k ops (⟨some d,op,ty,pos,aft,some (j,b)⟩::rest) e w:=RO.no hj ht hd hne hk
theorem Qu {j t:Nat}{b:Bool}(hk:RO P f n R k ops rest ((d,undef)::e) w)(hj:((ops[j]?).bind (·.dst))=some t:=by rfl)(ht:e.get t=some undef:=by rfl)(hd:Nat.blt d n=true:=by rfl) :
 RO P f n R k ops (⟨some d,op,ty,pos,aft,some (j,b)⟩::rest) e w:=RO.noUndef hj ht hd hk
theorem Qw {fn:Func}{rs:List ResultVar}{vs:List Value}(hf:P.funcs[f]? = some fn)(hR:R (.returned (tup vs)) w)(hrs:fn.results=rs.toArray:=by rfl)(hr:Res P e w rs vs:=by first|((repeat(first|exact Res.nil|(apply Res.tmp;rfl)|(apply Res.cell;rfl;(first|exact zC8 rfl rfl (hS.rd (by exact Rd.any)) (by rfl) (by rfl)|exact zB2 rfl (zCq (hS.rd (by exact Rd.any)) (by rfl))))));done)|fail):Run P f n R (.code .ret::k) e w:=Run.ret hf hrs hr hR
theorem Sx {S:World→Prop}(h:Still P n e S op ty v:=by apply Still.indexAddrA;rfl;rfl;rfl;(exact zAi);omega;omega;(first|(simp only[Int.toNat_natCast,Nat.mul_one,Nat.zero_add,Int.reduceToNat,Nat.reduceMul,Nat.reduceAdd,Nat.zero_mul];exact rfl)|rfl)):Still P n e S op ty v:=h
theorem He {p:Prop}(h:p:=by first|exact⟨_,hS⟩|exact⟨_,hS.tail⟩|exact⟨_,hS.hd⟩):p:=h
theorem Ea {p:Prop}(h:p:=by apply Still.ex;intro ρx;exact Still.any):p:=h
theorem Ee {p:Prop}(h:p:=by apply Still.ex;intro ρx;exact Still.an):p:=h
theorem Xh {p q:Prop}(h:q)(hp:p:=by exact hS.hd):p∧q:=⟨hp,h⟩
theorem Xp {p q:Prop}(h:p:=by rfl)(hp:q:=by exact hS.pk):p∧q:=⟨h,hp⟩
theorem Rs {p:Prop}[Decidable p](h1:p→RO P f n R k ops rest ((d,.bool true)::e) w)(h2:¬p→RO P f n R k ops rest ((d,.bool false)::e) w):RO P f n R k ops rest ((d,.bool (decide p))::e) w:=RO.split h1 h2
theorem Qv {Q:World→Prop}(g:FuncId){args:List Operand}{ts:Array TypeId}{vs:List Value}(c:Cl P g vs w fun u w'=>u=v∧Q w')(k':∀w',Q w'→RO P f n R k ops rest ((d,v)::e) w')(h:fnB P g=true:=by rfl)(hx:evs e args=some vs:=by rfl)(hd:Nat.blt d n=true:=by rfl) :
 RO P f n R k ops (⟨some d,.call { callee:=.value (.func g),args:=args.toArray,argTypes:=ts },ty,pos,aft,none⟩::rest) e w:=RO.op (OP.callF h hx hd c (by rintro u w1 ⟨rfl,h⟩;exact k' w1 h))
theorem Ov {Q:World→Prop}(g:FuncId){args:List Operand}{ts:Array TypeId}{vs:List Value}(c:Cl P g vs w fun u w'=>u=v∧Q w')(k':∀w',Q w'→K ((d,v)::e) w')(h:fnB P g=true:=by rfl)(hx:evs e args=some vs:=by rfl)(hd:Nat.blt d n=true:=by rfl) :
 OP P n ⟨some d,.call { callee:=.value (.func g),args:=args.toArray,argTypes:=ts },ty,pos,aft,gd⟩ e w K:=OP.callF h hx hd c (by rintro u w1 ⟨rfl,h⟩;exact k' w1 h)
theorem An {p:Prop}(h:p:=by first|(focus((repeat(first|apply Has.head|apply Take.head|apply Put.head|apply Has.tail|apply Take.tail|apply Put.tail));done))|fail):p:=h
theorem No {p:Prop}(f:False:=by first|omega|exact absurd rfl hc|exact Bool.noConfusion hc):p:=f.elim
theorem Nb {p:Prop}(f:False:=by first|omega|exact absurd rfl hb|exact Bool.noConfusion hb):p:=f.elim
section
variable {fuel j t m a:Nat}{b c:Bool}{S:World→Prop}{dst:Option Tmp}
theorem Rh {p:Prop}[Decidable p]{listed:Array Bool}(h1:p→RH P n K S ops fuel listed ((d,.bool true)::e) w)(h2:¬p→RH P n K S ops fuel listed ((d,.bool false)::e) w):RH P n K S ops fuel listed ((d,.bool (decide p))::e) w:=RH.split h1 h2
theorem zDZ {i:Nat}:(bm m a).setIfInBounds i true=bm m (Nat.lor a (Nat.shiftLeft 1 i)):=by
 show _=bm m (a ||| 1 <<< i);unfold bm;apply Array.ext
 · simp
 · intro k h1 h2
   simp at h1 h2;rw[Array.getElem_setIfInBounds (by simpa using h1)];by_cases hk:i=k
   · subst hk;simp[Nat.testBit_or,Nat.testBit_shiftLeft]
   · rw[if_neg hk]
     simp[Nat.testBit_or,Nat.testBit_shiftLeft];intro h3;have:k - i≠0:=by omega
     cases hx:Nat.testBit 1 (k - i)with
     | false=>simp
     | true=>exact absurd (Nat.testBit_one_eq_true_iff_self_eq_zero.mp hx) this
theorem Yt (a i:Nat)(hk:RH P n K (St we ρ σ') ops fuel (bm m (Nat.lor a (Nat.shiftLeft 1 i))) ((d,v)::e) w)(hS:St we ρ σ w:=by exact hS)(hi:ops[i]? = some ⟨some d,op,ty,pos,aft,none⟩:=by rfl)(hb:zFK ops (bm m a) i=true:=by kernel_rfl)
 (h:Still P n e (St we ρ σ') op ty v:=by exact Still.any) (hp : σ'.Sublist σ:=by exact Hb) (hd:Nat.blt d n=true:=by rfl):RH P n K (St we ρ σ') ops (fuel+1) (bm m a) e w:=RH.take hi hb zDZ h (hS.sublist hp) hd hk
theorem Yl (a i:Nat)(hk:RH P n K (St we ρ σ') ops fuel (bm m (Nat.lor a (Nat.shiftLeft 1 i))) ((d,v)::e) w)(hS:St we ρ σ w:=by exact hS)(hi:ops[i]? = some ⟨some d,op,ty,pos,aft,none⟩:=by rfl)(hb:zFK ops (bm m a) i=true:=by kernel_rfl)
 (h:Still P n e (St we ρ σ') op ty v:=by exact Still.an) (hp : σ'.Sublist σ:=by exact Hb) (hd:Nat.blt d n=true:=by rfl):RH P n K (St we ρ σ') ops (fuel+1) (bm m a) e w:=RH.take hi hb zDZ h (hS.sublist hp) hd hk
theorem Yy (a i:Nat)(hk:RH P n K (St we ρ σ') ops fuel (bm m (Nat.lor a (Nat.shiftLeft 1 i))) ((d,v)::e) w)(hS:St we ρ σ w:=by exact hS)(hi:ops[i]? = some ⟨some d,op,ty,pos,aft,some (j,b)⟩:=by rfl)(hj:((ops[j]?).bind (·.dst))=some t:=by rfl)(ht:e.get t=some (.bool b):=by rfl)(hb:zFK ops (bm m a) i=true:=by kernel_rfl)
 (h:Still P n e (St we ρ σ') op ty v:=by exact Still.any) (hp : σ'.Sublist σ:=by exact Hb) (hd:Nat.blt d n=true:=by rfl):RH P n K (St we ρ σ') ops (fuel+1) (bm m a) e w:=RH.takeYes hi hj ht hb zDZ h (hS.sublist hp) hd hk
theorem Yz (a i:Nat)(hk:RH P n K (St we ρ σ') ops fuel (bm m (Nat.lor a (Nat.shiftLeft 1 i))) ((d,v)::e) w)(hS:St we ρ σ w:=by exact hS)(hi:ops[i]? = some ⟨some d,op,ty,pos,aft,some (j,b)⟩:=by rfl)(hj:((ops[j]?).bind (·.dst))=some t:=by rfl)(ht:e.get t=some (.bool b):=by rfl)(hb:zFK ops (bm m a) i=true:=by kernel_rfl)
 (h:Still P n e (St we ρ σ') op ty v:=by exact Still.an) (hp : σ'.Sublist σ:=by exact Hb) (hd:Nat.blt d n=true:=by rfl):RH P n K (St we ρ σ') ops (fuel+1) (bm m a) e w:=RH.takeYes hi hj ht hb zDZ h (hS.sublist hp) hd hk
theorem Yn (a i:Nat)(hk:RH P n K (St we ρ σ') ops fuel (bm m (Nat.lor a (Nat.shiftLeft 1 i))) ((d,undef)::e) w)(hS:St we ρ σ w:=by exact hS)(hi:ops[i]? = some ⟨some d,op,ty,pos,aft,some (j,b)⟩:=by rfl)(hj:((ops[j]?).bind (·.dst))=some t:=by rfl)(ht:e.get t=some (.bool c):=by rfl)(hne:(c == b)=false:=by rfl)(hb:zFK ops (bm m a) i=true:=by kernel_rfl)
 (hp : σ'.Sublist σ:=by exact Hb) (hd:Nat.blt d n=true:=by rfl):RH P n K (St we ρ σ') ops (fuel+1) (bm m a) e w:=RH.takeNo hi hj ht hne hb zDZ (hS.sublist hp) hd hk
theorem Yu (a i:Nat)(hk:RH P n K (St we ρ σ') ops fuel (bm m (Nat.lor a (Nat.shiftLeft 1 i))) ((d,undef)::e) w)(hS:St we ρ σ w:=by exact hS)(hi:ops[i]? = some ⟨some d,op,ty,pos,aft,some (j,b)⟩:=by rfl)(hj:((ops[j]?).bind (·.dst))=some t:=by rfl)(ht:e.get t=some undef:=by rfl)(hb:zFK ops (bm m a) i=true:=by kernel_rfl)
 (hp : σ'.Sublist σ:=by exact Hb) (hd:Nat.blt d n=true:=by rfl):RH P n K (St we ρ σ') ops (fuel+1) (bm m a) e w:=RH.takeUndef hi hj ht hb zDZ (hS.sublist hp) hd hk
theorem Yd (a:Nat)(h:K e w)(hr:Region.ready .any ops.toArray (bm m a)=[]:=by kernel_rfl):RH P n K S ops fuel (bm m a) e w:=RH.done hr h
theorem Za (a i:Nat)(h:RI P n K S ops fuel (bm m a) i e w)(hr:Region.ready .any ops.toArray (bm m a)=[i]:=by kernel_rfl):RH P n K S ops (fuel+1) (bm m a) e w:=RH.all1 hr h
theorem Zb (a i i2:Nat)(h:RI P n K S ops fuel (bm m a) i e w)(h2:RI P n K S ops fuel (bm m a) i2 e w)(hr:Region.ready .any ops.toArray (bm m a)=[i,i2]:=by kernel_rfl):RH P n K S ops (fuel+1) (bm m a) e w:=RH.all2 hr h h2
theorem Zc (a i i2 i3:Nat)(h:RI P n K S ops fuel (bm m a) i e w)(h2:RI P n K S ops fuel (bm m a) i2 e w)(h3:RI P n K S ops fuel (bm m a) i3 e w)(hr:Region.ready .any ops.toArray (bm m a)=[i,i2,i3]:=by kernel_rfl):RH P n K S ops (fuel+1) (bm m a) e w:=RH.all3 hr h h2 h3
theorem Jo {i:Nat}(h:OP P n ⟨dst,op,ty,pos,aft,none⟩ e w (fun e' w'=>S w'∧RH P n K S ops fuel (bm m (Nat.lor a (Nat.shiftLeft 1 i))) e' w'))(hi:ops[i]? = some ⟨dst,op,ty,pos,aft,none⟩:=by rfl):RI P n K S ops fuel (bm m a) i e w:=RI.op hi zDZ h
theorem Jy {i:Nat}(h:OP P n ⟨dst,op,ty,pos,aft,some (j,b)⟩ e w (fun e' w'=>S w'∧RH P n K S ops fuel (bm m (Nat.lor a (Nat.shiftLeft 1 i))) e' w'))(hi:ops[i]? = some ⟨dst,op,ty,pos,aft,some (j,b)⟩:=by rfl)(hj:((ops[j]?).bind (·.dst))=some t:=by rfl)(ht:e.get t=some (.bool b):=by rfl) :
 RI P n K S ops fuel (bm m a) i e w:=RI.yes hi hj ht zDZ h
theorem Jn {i:Nat}(h:RH P n K (St we ρ σ') ops fuel (bm m (Nat.lor a (Nat.shiftLeft 1 i))) ((d,undef)::e) w)(hS:St we ρ σ w:=by exact hS)(hi:ops[i]? = some ⟨some d,op,ty,pos,aft,some (j,b)⟩:=by rfl)(hj:((ops[j]?).bind (·.dst))=some t:=by rfl)(ht:e.get t=some (.bool c):=by rfl)(hne:(c == b)=false:=by rfl)(hd:Nat.blt d n=true:=by rfl)
 (hp : σ'.Sublist σ:=by exact Hb):RI P n K (St we ρ σ') ops fuel (bm m a) i e w:=RI.no hi hj ht hne zDZ hd (hS.sublist hp) h
theorem Ju {i:Nat}(h:RH P n K (St we ρ σ') ops fuel (bm m (Nat.lor a (Nat.shiftLeft 1 i))) ((d,undef)::e) w)(hS:St we ρ σ w:=by exact hS)(hi:ops[i]? = some ⟨some d,op,ty,pos,aft,some (j,b)⟩:=by rfl)(hj:((ops[j]?).bind (·.dst))=some t:=by rfl)(ht:e.get t=some undef:=by rfl)(hd:Nat.blt d n=true:=by rfl)
 (hp : σ'.Sublist σ:=by exact Hb):RI P n K (St we ρ σ') ops fuel (bm m a) i e w:=RI.noUndef hi hj ht zDZ hd (hS.sublist hp) h
theorem Wt (a i:Nat)(hk:RH P n K S ops fuel (bm m (Nat.lor a (Nat.shiftLeft 1 i))) ((d,v)::e) w)(hi:ops[i]? = some ⟨some d,op,ty,pos,aft,none⟩:=by rfl)(hb:zFK ops (bm m a) i=true:=by kernel_rfl)
 (hd:Nat.blt d n=true:=by rfl) (hS:S w) (h:Still P n e S op ty v):RH P n K S ops (fuel+1) (bm m a) e w:=RH.take hi hb zDZ h hS hd hk
theorem Wy (a i:Nat)(hk:RH P n K S ops fuel (bm m (Nat.lor a (Nat.shiftLeft 1 i))) ((d,v)::e) w)(hi:ops[i]? = some ⟨some d,op,ty,pos,aft,some (j,b)⟩:=by rfl)(hj:((ops[j]?).bind (·.dst))=some t:=by rfl)(ht:e.get t=some (.bool b):=by rfl)(hb:zFK ops (bm m a) i=true:=by kernel_rfl)
 (hd:Nat.blt d n=true:=by rfl) (hS:S w) (h:Still P n e S op ty v):RH P n K S ops (fuel+1) (bm m a) e w:=RH.takeYes hi hj ht hb zDZ h hS hd hk
theorem Wn (a i:Nat)(hk:RH P n K S ops fuel (bm m (Nat.lor a (Nat.shiftLeft 1 i))) ((d,undef)::e) w)(hi:ops[i]? = some ⟨some d,op,ty,pos,aft,some (j,b)⟩:=by rfl)(hj:((ops[j]?).bind (·.dst))=some t:=by rfl)(ht:e.get t=some (.bool c):=by rfl)(hne:(c == b)=false:=by rfl)(hb:zFK ops (bm m a) i=true:=by kernel_rfl)
 (hd:Nat.blt d n=true:=by rfl) (hS:S w):RH P n K S ops (fuel+1) (bm m a) e w:=RH.takeNo hi hj ht hne hb zDZ hS hd hk
theorem Wu (a i:Nat)(hk:RH P n K S ops fuel (bm m (Nat.lor a (Nat.shiftLeft 1 i))) ((d,undef)::e) w)(hi:ops[i]? = some ⟨some d,op,ty,pos,aft,some (j,b)⟩:=by rfl)(hj:((ops[j]?).bind (·.dst))=some t:=by rfl)(ht:e.get t=some undef:=by rfl)(hb:zFK ops (bm m a) i=true:=by kernel_rfl)
 (hd:Nat.blt d n=true:=by rfl) (hS:S w):RH P n K S ops (fuel+1) (bm m a) e w:=RH.takeUndef hi hj ht hb zDZ hS hd hk
end
end
end Go.Proofs.YtcikdogkkgefcaaGreatDoor
