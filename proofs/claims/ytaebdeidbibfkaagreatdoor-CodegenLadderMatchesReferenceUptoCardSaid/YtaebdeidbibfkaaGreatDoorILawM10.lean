/- The Av framework: slices.SortFunc, by the library's contract. No law of the program is proved here. -/
import Derived.Test.YtaebdeidbibfkaaGreatDoorIAvM9
import Derived.Shelf.SlSortCmp.WholeK
import Derived.Test.YtaebdeidbibfkaaGreatDoorIGMod
set_option linter.unusedSimpArgs false
set_option linter.unusedVariables false
set_option linter.unusedSectionVars false
namespace Go.Av
variable [Drawn]
open Go.Proofs Go.Shelf Go.RowKit Go.Lib
theorem ZjH {P:Program} {g:FuncId} (h:Fn P g) (args:Array Value) (w:World):(callFunc g args).run P w = .ok (.enter g args) w:=by
 obtain ⟨fn,hfn,hbody,hname⟩:=h
 unfold callFunc
 simp only [Sem.run_bind,run_program,Result.andThen,hfn]
 have hb:fn.body.isNone = false:=by cases hbb:fn.body with | none=>rw [hbb] at hbody; cases hbody | some _=>rfl
 have hnn:(fn.name == "runtime.NumGoroutine") = false:=by simpa using hname
 rw [hnn,hb]
 rfl
theorem Zgy {P:Program} {w:World} {t:TypeId} {ts:TS} (hT:TOk P t ts) (ha:ts.isAgg = true):(isAgg t).run P w = .ok true w:=by
 obtain ⟨_,i,d,z,hi,hu,hsz,hby,hk,_⟩:=hT
 unfold TS.isAgg at ha
 cases hkk:ts.kind with
 | struct fs=>rw [hkk] at hk; obtain ⟨f,rfl,_⟩:=hk; simp [isAgg,run_underlying hu]
 | array n e=>rw [hkk] at hk; cases hk; simp [isAgg,run_underlying hu]
 | _=>rw [hkk] at ha; cases ha
section
variable {α:Type} [Inhabited α] (enc:α -> List Value) (k:Nat) (w:World) (blk off m:Nat) (dk:Array α) (os:Array Obj)
theorem ZdG:(sortWorldK enc k w blk off m dk os).heap.size = w.heap.size + os.size:=by
 unfold sortWorldK Go.Sort.putRowK
 rw [Go.Sort.size_grow,Go.Sort.size_putRow]; rfl
theorem Zfi {b:Nat} (h:b < w.heap.size):(sortWorldK enc k w blk off m dk os).heap[b]? = (w.heap.modify blk (Go.Sort.onCells (Go.Sort.putCells id off (Go.Sort.flatK enc k dk))))[b]?:=by
 unfold sortWorldK Go.Sort.putRowK
 rw [Go.Sort.heap_grow_old _ _ (by rw [Go.Sort.size_putRow]; exact h)]
 rfl
theorem Zcl {b:Nat} (h:b < w.heap.size) (hne:b ≠ blk):(sortWorldK enc k w blk off m dk os).heap[b]? = w.heap[b]?:=by
 rw [Zfi enc k w blk off m dk os h,Array.getElem?_modify,if_neg (fun e=>hne e.symm)]
theorem ZjK {arr:Array Value} {ty:TypeId} {fr:Nat × Nat} (h:w.heap[blk]? = some (.cells arr ty fr)):(sortWorldK enc k w blk off m dk os).heap[blk]? = some (.cells (Go.Sort.putCells id off (Go.Sort.flatK enc k dk) arr) ty fr):=by
 have hb:blk < w.heap.size:=by
  rcases Nat.lt_or_ge blk w.heap.size with g | g
  ·exact g
  ·rw [Array.getElem?_eq_none g] at h; cases h
 rw [Zfi enc k w blk off m dk os hb,Array.getElem?_modify,if_pos rfl,h]; rfl
theorem ZgR {a:Addr} (h:a.block < w.heap.size):(sortWorldK enc k w blk off m dk os).frozen? a = w.frozen? a:=by
 unfold sortWorldK Go.Sort.putRowK
 rw [Go.Sort.frozen?_grow _ _ _ (by rw [Go.Sort.size_putRow]; exact h),Go.Sort.frozen?_putRow]
 rfl
end
theorem ZiU {w w':World} (e1:w'.os = w.os) (e2:w'.tape = w.tape) (e3:w'.output = w.output) (hsz:w.heap.size <= w'.heap.size) (hbl:∀ b,b < w.heap.size -> w'.heap[b]? = w.heap[b]?) (hdr:w.drawn <= w'.drawn):∃ q os,w' = Go.Sort.grow (w.drewN q) os:=by
 refine ⟨w'.drawn - w.drawn,w'.heap.extract w.heap.size w'.heap.size,?_⟩
 have h1:w'.heap = w.heap ++ w'.heap.extract w.heap.size w'.heap.size:=by
  apply Array.ext_getElem?
  intro i
  rw [Array.getElem?_append]
  split
  ·rename_i hi; exact hbl i hi
  ·rename_i hi
   rw [Array.getElem?_extract]
   split
   ·congr 1; omega
   ·exact Array.getElem?_eq_none (by omega)
 have h2:w'.drawn = w.drawn + (w'.drawn - w.drawn):=by omega
 cases w' with
 | mk hp tp dr o out =>
   simp only at e1 e2 e3 h1 h2
   subst e1; subst e2; subst e3
   unfold Go.Sort.grow World.drewN
   simp only
   rw [<- h1,<- h2]
theorem Zki {O:Nat -> Prop} {w w':World} (h:@Keeps ⟨True⟩ O w w') (hO:∀ b,¬ O b):∃ q os,w' = Go.Sort.grow (w.drewN q) os :=
 ZiU (@Keeps.os ⟨True⟩ _ _ _ h) (@Keeps.tape ⟨True⟩ _ _ _ h) (@Keeps.output ⟨True⟩ _ _ _ h) (@Keeps.size ⟨True⟩ _ _ _ h) (fun b hb=>@Keeps.block ⟨True⟩ _ _ _ h b hb (hO b)) (@Keeps.drawn ⟨True⟩ _ _ _ h trivial)
theorem Zjn {P:Program} {G:List (Nat × AV)} {ρ:Ren} (L:SlLaysF0.n6 P ρ) {te:TS} (hT:TOk P (ρ.t 24) te) (hag:te.isAgg = true) {β:Type} (c:β -> List AV) (hc:∀ x,(c x).length = te.size)
 (hfn:Fn P (ρ.f 6)) (g:FuncId) (cf:β -> β -> Option Int) (hcf:∀ a b r,cf a b = some r -> @Con ⟨True⟩ P G g [.agg (c a),.agg (c b)] (.int .i64 r) []) (l r:List β) (h:sortM cf l = some r) :
 ConH P G (ρ.f 6) [.sl 0 0 l.length,.clos g [] []] [.arr te.size l.length (rw (l.map c))] (.tup []) [.arr te.size l.length (rw (r.map c))]:=by
 refine ⟨hfn,fun E w vals hh hg ha=>?_⟩
 obtain ⟨x0,x1,rfl,h0,h1⟩:=ZjU ha
 unfold sortM at h
 cases hb0:(Nat.ble 1 l.length && (Nat.ble l.length 1000000000 && ZbC cf l)) with
 | false=>rw [hb0] at h; cases h
 | true =>
 rw [hb0,cond_true,Option.some.injEq] at h
 rw [Bool.and_eq_true,Bool.and_eq_true,Za7] at hb0
 obtain ⟨hn1,hn2,hs⟩:=hb0
 have hn1:=Nat.le_of_ble_eq_true hn1
 have hn2:=Nat.le_of_ble_eq_true hn2
 have hobj:ArrRep E w 0 te.size l.length (rw (l.map c)):=hh.obj 0 _ rfl
 obtain ⟨hσ,hpos,hκ,hκm,hrow,hm⟩:=hobj
 cases hρ:E.ρ 0 with
 | none=>rw [hρ] at hm; omega
 | some b =>
 rw [hρ] at hm
 obtain ⟨arr,ty,hblk,hsz,hcell⟩:=hm
 have hlive:Live [AObj.arr te.size l.length (rw (l.map c))] 0:=⟨_,rfl,by simp⟩
 have hbw:b < w.heap.size:=hh.lt 0 b hlive hρ
 have hbF:¬ E.F b:=hh.fr 0 b hlive hρ
 have hx0:x0 = .slice (some ⟨b,E.ω 0 * te.size,none⟩) l.length (E.κ 0):=by
  cases h0 with
  | fz _ _ q=>cases q
  | sl _ _ _ av hi h hav =>
    have:=hav (by omega)
    rw [hρ,hσ] at this
    rw [this]; simp
 have hx1:x1 = .func (.func g) #[] #[]:=by
  cases h1 with
  | fz _ _ q=>cases q
  | clos _ _ _ xa xc hxa hxc _ _ =>
    have e1:xa = []:=by simpa using hxa
    have e2:xc = []:=by simpa using hxc
    subst e1; subst e2; rfl
 subst hx0; subst hx1
 have hgt:∀ i:_root_.Fin l.length,rw (l.map c) i = c l[i]:=fun i=>Zgz (by simp)
 haveI:Inhabited (_root_.Fin l.length):=⟨⟨0,hn1⟩⟩
 let enc:_root_.Fin l.length -> List Value:=fun i=>(List.range te.size).map fun j=>arr.getD ((E.ω 0 + i) * te.size + j) default
 have henc:∀ (i:_root_.Fin l.length) (j:Nat),j < te.size -> (enc i).getD j default = arr.getD ((E.ω 0 + i) * te.size + j) default:=fun i j hj=>by
  simp [enc,List.getD,hj]
 have hk:∀ x,(enc x).length = te.size:=fun x=>by simp [enc]
 have hin:∀ i j:Nat,i < l.length -> j < te.size -> (E.ω 0 + i) * te.size + j < arr.size:=fun i j hi hj=>by
  have:(E.ω 0 + i + 1) * te.size <= (E.ω 0 + E.κ 0) * te.size:=Nat.mul_le_mul_right _ (by omega)
  rw [Nat.add_mul _ 1,Nat.one_mul] at this
  omega
 have hval:∀ (i:_root_.Fin l.length) (j:Nat) (cc:AV),(c l[i])[j]? = some cc -> arr[(E.ω 0 + i) * te.size + j]? = some ((enc i).getD j default) /\ RepF E.F w cc ((enc i).getD j default):=fun i j cc hj=>by
  obtain ⟨v,e1,e2⟩:=hcell i j cc i.2 (by rw [hgt]; exact hj)
  have hjl:j < te.size:=by rw [<- hc l[i]]; exact Zd hj
  have:(enc i).getD j default = v:=by rw [henc i j hjl,Array.getD_eq_getD_getElem?,e1]; rfl
  rw [this]; exact ⟨e1,e2⟩
 have hone:∀ x,∀ v ∈ enc x,v.oneCell' = true:=fun x v hv=>by
  obtain ⟨j,hj,e⟩:=List.mem_iff_getElem.1 hv
  have hjl:j < te.size:=by rw [<- hk x]; exact hj
  obtain ⟨cc,hcc⟩:∃ cc,(c l[x])[j]? = some cc:=⟨_,List.getElem?_eq_getElem (l:=c l[x]) (show j < (c l[x]).length by rw [hc]; exact hjl)⟩
  have:=(hval x j cc hcc).2.oneCell
  have e2:(enc x).getD j default = v:=by rw [List.getD_eq_getElem?_getD,List.getElem?_eq_getElem hj,e]; rfl
  rw [e2] at this; exact this
 let d:Array (_root_.Fin l.length):=Array.ofFn id
 have hds:d.size = l.length:=by simp [d]
 have hdg:∀ (i:Nat) (hi:i < l.length),d[i]! = ⟨i,hi⟩:=fun i hi=>by
  rw [getElem!_pos d i (by rw [hds]; exact hi)]; simp [d]
 let off:=E.ω 0 * te.size
 have hflat:∀ (dk:Array (_root_.Fin l.length)) (i j:Nat),i < dk.size -> j < te.size -> (Go.Sort.flatK enc te.size dk)[i * te.size + j]! = (enc dk[i]!).getD j default:=fun dk i j hi hj=>by
  have hlt:i * te.size + j < dk.size * te.size:=by
   have:(i + 1) * te.size <= dk.size * te.size:=Nat.mul_le_mul_right _ hi
   rw [Nat.add_mul,Nat.one_mul] at this; omega
  rw [Go.Sort.get_flatK enc te.size dk _ hlt]
  have e1:(i * te.size + j) / te.size = i:=by rw [Nat.mul_comm,Nat.mul_add_div hpos,Nat.div_eq_of_lt hj]; rfl
  have e2:(i * te.size + j) % te.size = j:=by rw [Nat.mul_comm,Nat.mul_add_mod,Nat.mod_eq_of_lt hj]
  rw [e1,e2,List.getD_eq_getElem?_getD,List.getElem!_eq_getElem?_getD]
 have hH:Go.Sort.HoldsK enc te.size w b off d:=by
  intro t ht
  rw [Go.Sort.size_flatK,hds] at ht
  obtain ⟨q,s,rfl,hs1⟩:∃ q s,t = q * te.size + s /\ s < te.size:=⟨t / te.size,t % te.size,(Nat.div_add_mod' t te.size).symm,Nat.mod_lt _ hpos⟩
  have hq:q < l.length:=by
   rcases Nat.lt_or_ge q l.length with g | g
   ·exact g
   ·have:=Nat.mul_le_mul_right te.size g; omega
  rw [hflat d q s (by rw [hds]; exact hq) hs1,hdg q hq,henc _ _ hs1]
  have e:off + (q * te.size + s) = (E.ω 0 + q) * te.size + s:=by simp only [off]; rw [Nat.add_mul]; omega
  have hl:=hin q s hq hs1
  constructor
  ·unfold World.cell?
   simp only [hblk,e]
   simp [Array.getD,hl]
  ·unfold World.frozen?
   simp only [hblk]
   simp
 have hF:∀ (m:Nat) (os:Array Obj) (dk:Array (_root_.Fin l.length)),∀ b',E.F b' -> (sortWorldK enc te.size w b off m dk os).heap[b']? = w.heap[b']?:=fun m os dk b' hb' =>
  Zcl enc te.size w b off m dk os (hh.frz b' hb') (fun e=>hbF (e ▸ hb'))
 let cf':_root_.Fin l.length -> _root_.Fin l.length -> Int:=fun i j=>(cf l[i] l[j]).getD 0
 have hcf':∀ i j,cf l[i] l[j] = some (cf' i j):=fun i j=>by
  obtain ⟨q,e⟩:=hs.tot l[i] (List.getElem_mem _) l[j] (List.getElem_mem _)
  simp only [cf',e,Option.getD_some]
 have hlt:∀ i j,ltOf cf' i j = ltM cf l[i] l[j]:=fun i j=>by
  simp only [ltOf,ltM,hcf']
 have hO:Go.Sort.SWO (ltOf cf'):=by
  refine ⟨fun x=>?_,fun x y z h1 h2=>?_,fun x y z h1 h2=>?_⟩
  ·rw [hlt]; exact hs.irr _ (List.getElem_mem _)
  ·rw [hlt] at h1 h2 ⊢; exact hs.tr _ (List.getElem_mem _) _ (List.getElem_mem _) _ (List.getElem_mem _) h1 h2
  ·rw [hlt] at h1 h2 ⊢; exact hs.ntr (List.getElem_mem _) (List.getElem_mem _) (List.getElem_mem _) h1 h2
 have hgf:Fn P g:=@Con.fn ⟨True⟩ _ _ _ _ _ _ (hcf _ _ _ (hcf' ⟨0,hn1⟩ ⟨0,hn1⟩))
 have hcmp:CmpLays P g #[] enc te.size cf' b off d.size w:=by
  intro m os dk hdk x y
  have hcon:=@Con.calls ⟨True⟩ _ _ _ _ _ _ (hcf _ _ _ (hcf' x y))
  have hsz':=ZdG enc te.size w b off m dk os
  have:=hcon { E with N:=0 } (sortWorldK enc te.size w b off m dk os) [.agg (enc x).toArray,.agg (enc y).toArray] ?_ ?_ ?_
  ·rw [Array.append_empty]
   refine Calls.mono this fun e w' he=>?_
   cases e with
   | returned v =>
     obtain ⟨r',H',E',⟨rfl,rfl⟩,hr,haf⟩:=he
     have:v = .int .i64 (cf' x y):=by
      cases hr with
      | fz _ _ q=>cases q; rfl
     subst this
     refine ⟨rfl,?_⟩
     exact Zki (@After.keeps ⟨True⟩ _ _ _ _ _ _ haf) (fun b' ⟨id,⟨o,ho,_⟩,_⟩=>by simp at ho)
   | _=>exact False.elim he
  ·refine ⟨rfl,fun id o ho=>by simp at ho,fun id b' ⟨o,ho,_⟩=>by simp at ho,fun id b' ⟨o,ho,_⟩=>by simp at ho,fun i j b' ⟨o,ho,_⟩=>by simp at ho,fun b' hb'=>?_⟩
   have:=hh.frz b' hb'
   omega
  ·intro gq
   rcases hg gq with q | q
   ·exact .inl q
   ·exact .inr (q.mono (fun _ h=>h) fun b' hb'=>hF m os dk b' hb')
  ·refine ⟨rfl,fun i cc hi=>?_⟩
   have hag:∀ z:_root_.Fin l.length,Rep { E with N:=0 } (sortWorldK enc te.size w b off m dk os) (.agg (c l[z])) (.agg (enc z).toArray):=fun z=>by
    refine .agg _ _ (by rw [hk,hc]) fun j cc hj=>?_
    exact .fz _ _ ((hval z j cc hj).2.mono (fun _ h=>h) fun b' hb'=>hF m os dk b' hb')
   match i,hi with
   | 0,hi=>simp at hi; subst hi; exact hag x
   | 1,hi=>simp at hi; subst hi; exact hag y
   | i + 2,hi=>simp at hi
 have hcall:=AnyQ.slices_SortFunc L te.size (fun w=>Zgy hT hag) (fun w=>Z1I hT) enc hk hone cf' hO g #[] b off (E.κ 0) d w (fun args w=>ZjH hgf args w) hcmp hH hbw (by rw [hds]; omega)
 rw [hds] at hcall
 refine hcall.mono fun e w' ⟨he,d',m,os,hp,hso,hw'⟩=>?_
 subst he
 obtain ⟨hp1,hp2,hp3⟩:=hp
 rw [hds] at hp1
 have hd's:d'.toList.length = l.length:=by simpa using hp1
 have hperm:(d'.toList.map fun i=>l[i]).Perm l:=by
  have e1:(d'.extract 0 l.length).toList = d'.toList:=by simp [<- hp1]
  have e2:(d.extract 0 l.length).toList = d.toList:=by simp [<- hds]
  rw [e1,e2] at hp3
  have e3:(d.toList.map fun i=>l[i]) = l:=by
   refine List.ext_getElem (by simp [hds]) fun i h1 h2=>?_
   simp [d]
  have:=hp3.map fun i:_root_.Fin l.length=>l[i]
  rwa [e3] at this
 have hasc:AscM cf (d'.toList.map fun i=>l[i]):=by
  refine List.pairwise_iff_getElem.2 fun i j hi hj hij=>?_
  have hi':i < d'.size:=by simpa using hi
  have hj':j < d'.size:=by simpa using hj
  have:=hso i j (Nat.zero_le _) hij (by omega)
  rw [getElem!_pos d' i hi',getElem!_pos d' j hj',hlt] at this
  simpa using this
 have hres:(d'.toList.map fun i=>l[i]) = r:=by
  rw [<- h]
  exact hs.unique (fun x hx=>hperm.subset hx) (hperm.trans (Z1Q _ l).symm) hasc hs.asc
 have hrl:r.length = l.length:=by rw [<- hres]; simp [hp1]
 have hrg0:∀ (i:Nat) (hi:i < l.length) (q:_root_.Fin l.length),d'[i]! = q -> rw (r.map c) i = c l[q]:=fun i hi q hq=>by
  have hi':i < d'.size:=by omega
  refine Zgz ?_
  have e0:d'.toList[i]? = some q:=by
   rw [<- hq,getElem!_pos d' i hi']
   simp [hi']
  have e1:(d'.toList.map fun i=>l[i])[i]? = some l[q]:=by
   rw [List.getElem?_map,e0]; rfl
  rw [hres] at e1
  exact e1
 have hrg:=fun (i:Nat) (hi:i < l.length)=>hrg0 i hi _ rfl
 have hF':∀ b',E.F b' -> w'.heap[b']? = w.heap[b']?:=fun b' hb'=>by rw [hw']; exact hF m os d' b' hb'
 have hkeep:Keeps (Owned E [AObj.arr te.size l.length (rw (l.map c))]) w w':=by
  rw [hw']
  refine ⟨rfl,rfl,rfl,by rw [ZdG]; omega,fun b' hb' hn=>Zcl enc te.size w b off m d' os hb' (fun e=>hn ⟨0,hlive,by rw [hρ,e]⟩),fun a ha=>ZgR enc te.size w b off m d' os ha,fun _=>?_⟩
  show w.drawn <= w.drawn + m
  omega
 have hrow':w'.heap[b]? = some (.cells (Go.Sort.putCells id off (Go.Sort.flatK enc te.size d') arr) ty (0,0)):=by rw [hw']; exact ZjK enc te.size w b off m d' os hblk
 refine ⟨.tup [],[.arr te.size l.length (rw (r.map c))],E,⟨rfl,rfl⟩,.tup [] [] rfl (by simp),?_⟩
 have hl1:∀ id,Live [AObj.arr te.size l.length (rw (r.map c))] id -> id = 0:=fun id ⟨o,ho,_⟩=>by
  match id,ho with
  | 0,_=>rfl
  | id + 1,ho=>simp at ho
 refine ⟨⟨hh.len,fun id o ho=>?_,fun id b' hl e=>?_,fun id b' hl e=>?_,fun i j b' hi hj _ _=>by rw [hl1 i hi,hl1 j hj],fun b' hb'=>Nat.lt_of_lt_of_le (hh.frz b' hb') hkeep.size⟩,hkeep,fun _ h=>h,fun _ h=>.inl h,Nat.le_refl _,fun id hi=>⟨fun hl=>?_,rfl,rfl,rfl,rfl⟩,fun id b' hi hl _=>?_⟩
 ·match id,ho with
  | id + 1,ho=>simp at ho
  | 0,ho =>
  simp at ho; subst ho
  refine ⟨hσ,hpos,hκ,hκm,fun i hi=>by rw [hrg i hi]; exact hc _,?_⟩
  rw [hρ]
  refine ⟨_,ty,hrow',by simpa [Go.Sort.putCells] using hsz,fun i j cc hi hj=>?_⟩
  rw [hrg i hi] at hj
  have hjl:j < te.size:=by rw [<- hc l[d'[i]!]]; exact Zd hj
  obtain ⟨e1,e2⟩:=hval d'[i]! j cc hj
  refine ⟨_,?_,e2.mono (fun _ h=>h) hF'⟩
  have hi':i < d'.size:=by omega
  have hlt2:i * te.size + j < d'.size * te.size:=by
   have:(i + 1) * te.size <= d'.size * te.size:=Nat.mul_le_mul_right _ hi'
   rw [Nat.add_mul,Nat.one_mul] at this; omega
  have hoff:off + (i * te.size + j) = (E.ω 0 + i) * te.size + j:=by simp only [off]; rw [Nat.add_mul]; omega
  have hlt3:=hin i j hi hjl
  unfold Go.Sort.putCells
  rw [Array.getElem?_mapIdx,Array.getElem?_eq_getElem hlt3,Option.map_some,if_pos (by rw [Go.Sort.size_flatK]; omega)]
  rw [show (E.ω 0 + i) * te.size + j - off = i * te.size + j by omega,hflat d' i j hi' hjl]
  rfl
 ·have e0:=hl1 id hl; subst e0
  rw [hρ] at e; cases e
  exact Nat.lt_of_lt_of_le hbw hkeep.size
 ·have e0:=hl1 id hl; subst e0
  rw [hρ] at e; cases e
  exact hbF
 ·have e0:=hl1 id hl; subst e0
  exact hlive
 ·have e0:=hl1 id hl; subst e0
  simp at hi
end Go.Av
namespace Go.G
open Go.Av
theorem Z2 {α:Type} (l:List α) (i:Nat):atI l (i:Int) = l[i]?:=by simp [atI]
theorem wrapN {i:Nat} (h:i <= 1000000000000):IntKind.i64.wrap ((i:Int) + 1) = ((i + 1:Nat):Int):=by rw [IntKind.wrap_i64]; omega
theorem wrapI {i:Int} (h0:-4611686018427387904 <= i) (h:i <= 9223372036854775807):IntKind.i64.wrap i = i:=by rw [IntKind.wrap_i64]; omega
theorem Z8 {α:Type} {l:List α} {i:Nat} (h:i < l.length):∃ x,l[i]? = some x:=⟨l[i],List.getElem?_eq_getElem h⟩
theorem Z9 {α:Type} {l:List α} {i:Nat} {x:α} (h:l[i]? = some x):l.drop i = x :: l.drop (i + 1):=by
 obtain ⟨hi,e⟩:=List.getElem?_eq_some_iff.1 h
 rw [List.drop_eq_getElem_cons hi,e]
theorem Z25 {P:TreeTree -> Prop} (h:∀ K N ks,(∀ k ∈ ks,P k) -> P (.mk K N ks)):∀ t,P t:=fun t =>
 TreeTree.rec (motive_1:=P) (motive_2:=fun l=>∀ k ∈ l,P k) (fun K N ks ih=>h K N ks ih) (by simp) (fun k ks h1 h2=>by
  intro x hx
  rcases List.mem_cons.1 hx with rfl | hx
  ·exact h1
  ·exact h2 x hx) t
mutual
def szT:TreeTree -> Nat
 | .mk _ _ ks=>1 + szL ks
def szL:List TreeTree -> Nat
 | []=>0
 | k :: ks=>szT k + szL ks
end
theorem Z8k (t:TreeTree):1 <= szT t:=by cases t; simp only [szT]; omega
theorem Z36:∀ ks:List TreeTree,ks.length <= szL ks
 | []=>by simp
 | k :: ks=>by have:=Z36 ks; have:=Z8k k; simp only [szL,List.length_cons]; omega
theorem Z3J:∀ {ks:List TreeTree} {k:TreeTree},k ∈ ks -> szT k <= szL ks
 | x :: ks,k,h=>by
   rcases List.mem_cons.1 h with rfl | h
   ·simp only [szL]; omega
   ·have:=Z3J h; simp only [szL]; omega
theorem Z5i {K N:Int} {ks:List TreeTree} {n:Nat} (h:szT (.mk K N ks) < n):∃ m,n = m + 1 /\ ks.length < m /\ ∀ k ∈ ks,szT k < m:=by
 simp only [szT] at h
 have h1:=Z36 ks
 obtain ⟨m,rfl⟩:∃ m,n = m + 1:=⟨n - 1,by omega⟩
 exact ⟨m,rfl,by omega,fun k hk=>by have:=Z3J hk; omega⟩
mutual
def Ok (len:Int):TreeTree -> Prop
 | .mk K N ks=>(K = 0 /\ ks = [] /\ 0 <= N /\ N < len) \/ ((K = 1 \/ K = 2) /\ N = 0 /\ 2 <= ks.length /\ (∀ k ∈ ks,k.Kind ≠ K) /\ OkL len ks)
def OkL (len:Int):List TreeTree -> Prop
 | []=>True
 | k :: ks=>Ok len k /\ OkL len ks
end
theorem OkL_iff {len:Int}:∀ {ks:List TreeTree},OkL len ks ↔ ∀ k ∈ ks,Ok len k
 | []=>by simp [OkL]
 | k :: ks=>by rw [OkL,OkL_iff (ks:=ks)]; simp
mutual
def lv:TreeTree -> List Int
 | .mk K N ks=>if K = 0 then [N] else if K = 1 \/ K = 2 then lvs ks else []
def lvs:List TreeTree -> List Int
 | []=>[]
 | k :: ks=>lv k ++ lvs ks
end
end Go.G
namespace Go.G
open Go.Av
theorem Z4a:∀ ks:List TreeTree,lvs ks = ks.flatMap lv
 | []=>rfl
 | k :: ks=>by rw [lvs,Z4a ks]; rfl
theorem Zdj:∀ a b:List TreeTree,szL (a ++ b) = szL a + szL b
 | [],b=>by simp [szL]
 | k :: a,b=>by rw [List.cons_append,szL,szL,Zdj a b]; omega
def joinK (K:Int) (a:TreeTree):List TreeTree:=if a.Kind = K then a.Kids else [a]
def joinT (K:Int) (a b:TreeTree):TreeTree:=.mk K 0 (joinK K a ++ joinK K b)
section
variable {len:Int} {K:Int} (hK:K = 1 \/ K = 2)
include hK
theorem Z5Y (a:TreeTree):lvs (joinK K a) = lv a:=by
 unfold joinK
 split
 ·rename_i h
  obtain ⟨K',N,ks⟩:=a
  rw [Zi] at h; subst h
  rw [lv,if_neg (by omega),if_pos hK,Z1]
 ·simp [lvs]
theorem Zal (a:TreeTree):szL (joinK K a) <= szT a:=by
 unfold joinK
 split
 ·obtain ⟨K',N,ks⟩:=a
  rw [szT,Z1]; omega
 ·simp [szL]
theorem ZcK {a:TreeTree} (h:Ok len a):1 <= (joinK K a).length /\ ∀ k ∈ joinK K a,k.Kind ≠ K /\ Ok len k:=by
 unfold joinK
 split
 ·rename_i hk
  obtain ⟨K',N,ks⟩:=a
  rw [Zi] at hk; subst hk
  rw [Ok] at h
  rcases h with ⟨h,_⟩ | ⟨_,_,h2,h3,h4⟩
  ·omega
  ·rw [Z1]
   exact ⟨by omega,fun k hk=>⟨h3 k hk,OkL_iff.1 h4 k hk⟩⟩
 ·rename_i hk
  exact ⟨by simp,fun k h'=>by rw [List.mem_singleton] at h'; subst h'; exact ⟨hk,h⟩⟩
theorem ZcQ (a b:TreeTree):lv (joinT K a b) = lv a ++ lv b:=by
 unfold joinT
 rw [lv,if_neg (by omega),if_pos hK,Z4a,List.flatMap_append,<- Z4a,<- Z4a,Z5Y hK,Z5Y hK]
theorem Zgx (a b:TreeTree):szT (joinT K a b) <= szT a + szT b + 1:=by
 unfold joinT
 rw [szT,Zdj]
 have:=Zal hK a; have:=Zal hK b; omega
theorem ZgH {a b:TreeTree} (ha:Ok len a) (hb:Ok len b):Ok len (joinT K a b):=by
 unfold joinT
 obtain ⟨a1,a2⟩:=ZcK hK ha
 obtain ⟨b1,b2⟩:=ZcK hK hb
 rw [Ok]
 refine .inr ⟨hK,rfl,by simp; omega,fun k hk=>?_,OkL_iff.2 fun k hk=>?_⟩
 ·rcases List.mem_append.1 hk with h | h
  ·exact (a2 k h).1
  ·exact (b2 k h).1
 ·rcases List.mem_append.1 hk with h | h
  ·exact (a2 k h).2
  ·exact (b2 k h).2
end
theorem Ok_lv {len:Int}:∀ {t:TreeTree},Ok len t -> lv t ≠ [] /\ ∀ x ∈ lv t,0 <= x /\ x < len:=by
 intro t
 induction t using Z25 with
 | h K N ks ih =>
   intro h
   rw [Ok] at h
   rcases h with ⟨rfl,rfl,h1,h2⟩ | ⟨hK,rfl,h2,_,h4⟩
   ·rw [lv,if_pos rfl]
    exact ⟨by simp,fun x hx=>by rw [List.mem_singleton] at hx; subst hx; exact ⟨h1,h2⟩⟩
   ·rw [lv,if_neg (by omega),if_pos hK]
    rw [OkL_iff] at h4
    refine ⟨?_,fun x hx=>?_⟩
    ·match ks,h2,h4,ih with
     | k :: ks,_,h4,ih =>
       rw [lvs]
       have:=(ih k (by simp) (h4 k (by simp))).1
       simp [this]
    ·rw [Z4a,List.mem_flatMap] at hx
     obtain ⟨k,hk,hx⟩:=hx
     exact (ih k hk (h4 k hk)).2 x hx
theorem Z3o {α:Type}:∀ {l:List α} {i:Nat} {x:α},l[i]? = some x -> l.Perm (x :: l.eraseIdx i)
 | [],i,x,h=>by simp at h
 | a :: l,0,x,h=>by simp at h; subst h; simp
 | a :: l,i + 1,x,h=>by
   rw [List.getElem?_cons_succ] at h
   rw [List.eraseIdx_cons_succ]
   exact ((Z3o h).cons a).trans (List.Perm.swap _ _ _)
theorem Zam {α:Type}:∀ {l:List α} {i:Nat} {x:α} (a:α),l[i]? = some x -> (l.set i a).Perm (a :: l.eraseIdx i)
 | [],i,x,a,h=>by simp at h
 | b :: l,0,x,a,h=>by simp
 | b :: l,i + 1,x,a,h=>by
   rw [List.getElem?_cons_succ] at h
   rw [List.eraseIdx_cons_succ,List.set_cons_succ]
   exact ((Zam a h).cons b).trans (List.Perm.swap _ _ _)
theorem Zj0 {α β:Type} (f:α -> List β) {l:List α} {i j:Nat} {x y a:α} (hx:l[i]? = some x) (hy:l[j]? = some y) (hij:i ≠ j) (hf:(f a).Perm (f x ++ f y)):(((l.set i a).eraseIdx j).flatMap f).Perm (l.flatMap f):=by
 have h1:(l.set i a)[j]? = some y:=by rw [List.getElem?_set_ne hij]; exact hy
 have p1:=(Z3o h1).flatMap_right f
 have p2:=(Zam a hx).flatMap_right f
 have p3:=(Z3o hx).flatMap_right f
 simp only [List.flatMap_cons] at p1 p2 p3
 refine (List.perm_append_left_iff (f y)).1 ?_
 refine p1.symm.trans (p2.trans ?_)
 refine (hf.append_right _).trans ?_
 refine ((List.perm_append_comm (l₁:=f x) (l₂:=f y)).append_right _).trans ?_
 rw [List.append_assoc]
 exact (p3.symm).append_left _
theorem ZgK {α:Type} {l:List α} {i j:Nat} {x y a:α} (hx:l[i]? = some x) (hy:l[j]? = some y) (hij:i ≠ j) (e:α):e ∈ (l.set i a).eraseIdx j ↔ e = a \/ ∃ k,k ≠ i /\ k ≠ j /\ l[k]? = some e:=by
 have hi:=(List.getElem?_eq_some_iff.1 hx).1
 have hj:=(List.getElem?_eq_some_iff.1 hy).1
 rw [List.mem_eraseIdx_iff_getElem?]
 constructor
 ·rintro ⟨k,hk,h⟩
  rw [List.getElem?_set] at h
  split at h
  ·first
   | exact .inl (by simpa using h.symm)
   | (split at h
      ·exact .inl (by simpa using h.symm)
      ·cases h)
  ·rename_i hne
   exact .inr ⟨k,fun e=>hne e.symm,hk,h⟩
 ·rintro (rfl | ⟨k,h1,h2,h3⟩)
  ·exact ⟨i,hij,by rw [List.getElem?_set_self hi]⟩
  ·exact ⟨k,h2,by rw [List.getElem?_set_ne (fun e=>h1 e.symm)]; exact h3⟩
structure RInv (len:Nat) (rank:Str -> Nat) (l:List ReduceEdge):Prop where
 ok:∀ e ∈ l,Ok len e.t_
 lv:(l.flatMap fun e=>lv e.t_).Nodup
 all:(l.flatMap fun e=>Go.G.lv e.t_).length = len
 rk:∀ e ∈ l,rank e.pair.from_ < rank e.pair.to_
 sz:(l.map fun e=>szT e.t_ + 1).sum <= 2 * len
theorem Z7y {l l':List Nat} (h:l.Perm l'):l.sum = l'.sum:=h.sum_nat
theorem RInv.step {len:Nat} {rank:Str -> Nat} {l:List ReduceEdge} (h:RInv len rank l) {i j:Nat} {x y:ReduceEdge} (hx:l[i]? = some x) (hy:l[j]? = some y) (hij:i ≠ j) {K:Int} (hK:K = 1 \/ K = 2) (p:ReducePair)
 (hr:rank p.from_ < rank p.to_):RInv len rank ((l.set i ⟨p,joinT K x.t_ y.t_⟩).eraseIdx j):=by
 have mx:=List.mem_of_getElem? hx
 have my:=List.mem_of_getElem? hy
 have hp:=Zj0 (a:=(⟨p,joinT K x.t_ y.t_⟩:ReduceEdge)) (fun e:ReduceEdge=>Go.G.lv e.t_) hx hy hij (by simp only; rw [ZcQ hK])
 refine ⟨fun e he=>?_,hp.nodup_iff.2 h.lv,by rw [hp.length_eq]; exact h.all,fun e he=>?_,?_⟩
 ·rcases (ZgK hx hy hij e).1 he with rfl | ⟨k,_,_,hk⟩
  ·exact ZgH hK (h.ok x mx) (h.ok y my)
  ·exact h.ok e (List.mem_of_getElem? hk)
 ·rcases (ZgK hx hy hij e).1 he with rfl | ⟨k,_,_,hk⟩
  ·exact hr
  ·exact h.rk e (List.mem_of_getElem? hk)
 ·have h1:(l.set i ⟨p,joinT K x.t_ y.t_⟩)[j]? = some y:=by rw [List.getElem?_set_ne hij]; exact hy
  have p1:=Z7y ((Z3o h1).map fun e:ReduceEdge=>szT e.t_ + 1)
  have p2:=Z7y ((Zam ⟨p,joinT K x.t_ y.t_⟩ hx).map fun e:ReduceEdge=>szT e.t_ + 1)
  have p3:=Z7y ((Z3o hx).map fun e:ReduceEdge=>szT e.t_ + 1)
  simp only [List.map_cons,List.sum_cons] at p1 p2 p3
  have:=Zgx hK x.t_ y.t_
  have:=h.sz
  omega
end Go.G
namespace Go.G
open Go.Av
theorem Zbb:∀ t:TreeTree,(lv t).length <= szT t:=by
 intro t
 induction t using Z25 with
 | h K N ks ih =>
   have hs:∀ js:List TreeTree,(∀ k ∈ js,(lv k).length <= szT k) -> (lvs js).length <= szL js:=by
    intro js
    induction js with
    | nil=>intro _; simp [lvs]
    | cons k js ihj =>
      intro h
      have h1:=h k (by simp)
      have h2:=ihj fun j hj=>h j (by simp [hj])
      rw [lvs,szL,List.length_append]; omega
   rw [lv,szT]
   split
   ·simp
   ·split
    ·have:=hs ks ih; omega
    ·simp
theorem ZhU:∀ js:List TreeTree,(lvs js).length <= szL js
 | []=>by simp [lvs]
 | k :: js=>by have:=ZhU js; have:=Zbb k; rw [lvs,szL,List.length_append]; omega
theorem ZcB (t:TreeTree) (slf:TreeTree -> Option (List Int)) (hs:t.Kids.length <= 1000000000) (hf:∀ k ∈ t.Kids,slf k = some (lv k)):∀ (m i:Nat) (acc:List Int),i <= t.Kids.length -> t.Kids.length - i < m ->
 acc.length + (lvs (t.Kids.drop i)).length <= 1000000000 -> Z3g t slf m (i:Int) acc = some (acc ++ lvs (t.Kids.drop i))
 | 0,i,acc,h,hm,_=>absurd hm (Nat.not_lt_zero _)
 | m + 1,i,acc,h,hm,hc=>by
   rw [Z3g]
   by_cases hi:i < t.Kids.length
   ·obtain ⟨x,hx⟩:=Z8 hi
    rw [Z9 hx,lvs,List.length_append] at hc
    rw [if_pos (by simpa using hi),Z2,hx,Option.bind_some,hf x (List.mem_of_getElem? hx),Option.bind_some,if_pos (by omega),Option.bind_some,wrapN (by omega),
     ZcB t slf hs hf m (i + 1) _ (by omega) (by omega) (by rw [List.length_append]; omega),Z9 hx,lvs,List.append_assoc]
   ·rw [if_neg (by simpa using hi),List.drop_eq_nil_of_le (by omega),lvs,List.append_nil]
theorem Z9l:∀ (t:TreeTree) (n:Nat),szT t <= 1000000000 -> szT t < n -> Z1M n t = some (lv t):=by
 intro t
 induction t using Z25 with
 | h K N ks ih =>
   intro n hb hn
   obtain ⟨m,rfl,hlen,hkm⟩:=Z5i hn
   have hl:=Z36 ks
   have hl2:=ZhU ks
   rw [szT] at hb
   have key:Z3g (.mk K N ks) (Z1M m) m ((0:Nat):Int) [] = some ([] ++ lvs ((TreeTree.mk K N ks).Kids.drop 0)) :=
    ZcB (.mk K N ks) (Z1M m) (by rw [Z1]; omega) (fun k hk=>by
     rw [Z1] at hk
     have:=Z3J hk
     exact ih k hk m (by omega) (hkm k hk)) m 0 [] (by omega) (by rw [Z1]; omega) (by rw [Z1]; simpa using by omega)
   simp only [Z1,List.drop_zero,List.nil_append] at key
   rw [Z1M,lv]
   simp only [Zi,Z1v,beq_iff_eq]
   by_cases h0:K = 0
   ·rw [if_pos h0,if_pos h0]; rfl
   ·rw [if_neg h0,if_neg h0]
    by_cases h1:K = 1
    ·rw [if_pos h1,if_pos (.inl h1),Z43,if_pos (by simpa using h1)]
     exact key
    ·rw [if_neg h1,Z43]
     by_cases h2:K = 2
     ·rw [if_pos (by simpa using h2),if_pos (.inr h2)]
      exact key
     ·rw [if_neg (by simpa using h2),if_neg (by omega)]
def ZgO:List Int -> Int
 | []=>0
 | x :: l=>l.foldl imin x
theorem ZkR (a b:Int):imin a b = a \/ imin a b = b:=by unfold imin; split <;> simp
theorem Z9x:∀ (l:List Int) (x:Int),l.foldl imin x ∈ x :: l
 | [],x=>by simp
 | y :: l,x=>by
   rw [List.foldl_cons]
   rcases List.mem_cons.1 (Z9x l (imin x y)) with h | h
   ·rw [h]
    rcases ZkR x y with e | e <;> rw [e] <;> simp
   ·simp [h]
theorem Zdn {l:List Int} (h:l ≠ []):ZgO l ∈ l:=by
 cases l with
 | nil=>exact absurd rfl h
 | cons x l=>exact Z9x l x
theorem ZgD (l:List Int) (hs:l.length <= 1000000000):∀ (m i:Nat) (a:Int),i <= l.length -> l.length - i < m -> Z2W l m a (i:Int) = some ((l.drop i).foldl imin a)
 | 0,i,a,h,hm=>absurd hm (Nat.not_lt_zero _)
 | m + 1,i,a,h,hm=>by
   rw [Z2W]
   by_cases hi:i < l.length
   ·obtain ⟨x,hx⟩:=Z8 hi
    rw [if_pos (by simpa using hi),Z2,hx,Option.bind_some,wrapN (by omega),ZgD l hs m (i + 1) _ (by omega) (by omega),Z9 hx,List.foldl_cons]
   ·rw [if_neg (by simpa using hi),List.drop_eq_nil_of_le (by omega)]; rfl
theorem Zaw (n:Nat) (l:List Int) (h:l ≠ []) (hs:l.length <= 1000000000) (hn:l.length < n):Z46 n l = some (ZgO l):=by
 cases l with
 | nil=>exact absurd rfl h
 | cons x l =>
   rw [Z46,if_neg (by simp; omega),show (0:Int) = ((0:Nat):Int) from rfl,Z2]
   simp only [List.getElem?_cons_zero,Option.bind_some]
   rw [show (1:Int) = ((1:Nat):Int) from rfl,ZgD (x :: l) hs n 1 x (by simp) (by simp at hn ⊢; omega)]
   rfl
def cmpI (x y:Int):Int:=if x < y then -1 else if x > y then 1 else 0
theorem Zlb (n:Nat) (x y:Int):Z4D n x y = some (cmpI x y):=by
 have hnan:∀ z:Int,Z4s n z = some false:=fun z=>by simp [Z4s]
 rw [Z4D,hnan,hnan,cmpI]
 simp only [Option.bind_some,Bool.false_eq_true,if_false,decide_eq_true_eq]
 split
 ·rfl
 ·split <;> rfl
theorem Zaj (x y:Int):cmpI x y < 0 ↔ x < y:=by
 unfold cmpI
 split
 ·omega
 ·split <;> omega
def ZJ (t:TreeTree):Int:=ZgO (lv t)
theorem Zcj (n:Nat) (a b:TreeTree) (ha:lv a ≠ []) (hb:lv b ≠ []) (h1:szT a <= 1000000000) (h2:szT b <= 1000000000) (h3:szT a < n) (h4:szT b < n):Z2P n a b = some (cmpI (ZJ a) (ZJ b)):=by
 have:=Zbb a; have:=Zbb b
 rw [Z2P,Z9l a n h1 h3,Option.bind_some,Zaw n _ ha (by omega) (by omega),Option.bind_some,Z9l b n h2 h4,Option.bind_some,Zaw n _ hb (by omega) (by omega),Option.bind_some,Zlb,Option.bind_some]
 rfl
def ltT (a b:TreeTree):Bool:=decide (ZJ a < ZJ b)
mutual
def Z5:TreeTree -> TreeTree
 | .mk K N ks=>.mk K N (if K = 2 then Z20 ltT (Z2Q ks) else Z2Q ks)
def Z2Q:List TreeTree -> List TreeTree
 | []=>[]
 | k :: ks=>Z5 k :: Z2Q ks
end
theorem Z3s:∀ ks:List TreeTree,Z2Q ks = ks.map Z5
 | []=>rfl
 | k :: ks=>by rw [Z2Q,Z3s ks]; rfl
theorem Zd7 {α:Type} {lt lt':α -> α -> Bool} (a:α):∀ l:List α,(∀ b ∈ l,lt a b = lt' a b) -> insM lt a l = insM lt' a l
 | [],_=>rfl
 | b :: l,h=>by
   rw [insM,insM,h b (by simp),Zd7 a l fun c hc=>h c (by simp [hc])]
theorem ZaV {α:Type} {lt lt':α -> α -> Bool}:∀ l:List α,(∀ a ∈ l,∀ b ∈ l,lt a b = lt' a b) -> Z20 lt l = Z20 lt' l
 | [],_=>rfl
 | a :: l,h=>by
   rw [Z20,Z20,ZaV l fun a ha b hb=>h a (by simp [ha]) b (by simp [hb])]
   exact Zd7 a _ fun b hb=>h a (by simp) b (by simp [(Z1Q lt' l).subset hb])
theorem Z6U (K N:Int) (ks:List TreeTree):(Z5 (.mk K N ks)).Kids.Perm (ks.map Z5):=by
 rw [Z5,Z1,Z3s]
 split
 ·exact Z1Q _ _
 ·exact .refl _
theorem Z8b (t:TreeTree):Z5 t = .mk t.Kind t.N (Z5 t).Kids:=by
 obtain ⟨K,N,ks⟩:=t
 rw [Z5]; rfl
theorem Z8B (t:TreeTree):(Z5 t).Kind = t.Kind:=by rw [Z8b]; rfl
theorem ZjX {a b:List TreeTree} (h:a.Perm b):szL a = szL b:=by
 have e:∀ l:List TreeTree,szL l = (l.map szT).sum:=fun l=>by
  induction l with
  | nil=>rfl
  | cons k l ih=>rw [szL,ih]; rfl
 rw [e,e]; exact (h.map szT).sum_nat
theorem Zae:∀ t:TreeTree,szT (Z5 t) = szT t:=by
 intro t
 induction t using Z25 with
 | h K N ks ih =>
   rw [Z8b,szT,szT,ZjX (Z6U K N ks)]
   have:∀ js:List TreeTree,(∀ k ∈ js,szT (Z5 k) = szT k) -> szL (js.map Z5) = szL js:=by
    intro js
    induction js with
    | nil=>intro _; rfl
    | cons k js ihj=>intro h; rw [List.map_cons,szL,szL,h k (by simp),ihj fun j hj=>h j (by simp [hj])]
   rw [this ks ih]
theorem Zg9 {a b:List TreeTree} (h:a.Perm b):(lvs a).Perm (lvs b):=by
 rw [Z4a,Z4a]; exact h.flatMap_right _
theorem Z57:∀ t:TreeTree,(lv (Z5 t)).Perm (lv t):=by
 intro t
 induction t using Z25 with
 | h K N ks ih =>
   rw [Z8b,lv,lv,Zi,Z1v]
   split
   ·exact .refl _
   ·split
    ·refine (Zg9 (Z6U K N ks)).trans ?_
     have:∀ js:List TreeTree,(∀ k ∈ js,(lv (Z5 k)).Perm (lv k)) -> (lvs (js.map Z5)).Perm (lvs js):=by
      intro js
      induction js with
      | nil=>intro _; exact .refl _
      | cons k js ihj=>intro h; rw [List.map_cons,lvs,lvs]; exact (h k (by simp)).append (ihj fun j hj=>h j (by simp [hj]))
     exact this ks ih
    ·exact .refl _
theorem Z6Y {len:Int}:∀ {t:TreeTree},Ok len t -> Ok len (Z5 t):=by
 intro t
 induction t using Z25 with
 | h K N ks ih =>
   intro h
   have hp:=Z6U K N ks
   rw [Ok] at h
   rw [Z8b,Zi,Z1v,Ok]
   rcases h with ⟨rfl,rfl,h1,h2⟩ | ⟨hK,rfl,h2,h3,h4⟩
   ·exact .inl ⟨rfl,by simpa using hp,h1,h2⟩
   ·rw [OkL_iff] at h4
    refine .inr ⟨hK,rfl,by rw [hp.length_eq,List.length_map]; exact h2,fun k hk=>?_,OkL_iff.2 fun k hk=>?_⟩
    ·obtain ⟨j,hj,rfl⟩:=List.mem_map.1 (hp.subset hk)
     rw [Z8B]; exact h3 j hj
    ·obtain ⟨j,hj,rfl⟩:=List.mem_map.1 (hp.subset hk)
     exact ih j hj (h4 j hj)
theorem Z80:∀ {js:List TreeTree} {k:TreeTree},(lvs js).Nodup -> k ∈ js -> (lv k).Nodup
 | j :: js,k,hd,hk=>by
   rw [lvs,List.nodup_append] at hd
   rcases List.mem_cons.1 hk with rfl | hk
   ·exact hd.1
   ·exact Z80 hd.2.1 hk
theorem Z9f:∀ js:List TreeTree,(∀ k ∈ js,lv k ≠ []) -> (lvs js).Nodup -> (js.map ZJ).Nodup
 | [],_,_=>by simp
 | k :: js,h,hd=>by
   rw [lvs,List.nodup_append] at hd
   rw [List.map_cons,List.nodup_cons]
   refine ⟨fun hm=>?_,Z9f js (fun j hj=>h j (by simp [hj])) hd.2.1⟩
   obtain ⟨j,hj,e⟩:=List.mem_map.1 hm
   have h1:ZJ k ∈ lv k:=Zdn (h k (by simp))
   have h2:ZJ j ∈ lv j:=Zdn (h j (by simp [hj]))
   exact hd.2.2 _ h1 _ (by rw [Z4a,List.mem_flatMap]; exact ⟨j,hj,h2⟩) e.symm
theorem ZkA (n:Nat) (js:List TreeTree) (h1:1 <= js.length) (hk:∀ k ∈ js,lv k ≠ [] /\ szT k <= 1000000000 /\ szT k < n) (hl:js.length <= 1000000000) (hd:(lvs js).Nodup):Z1t n js = some (Z20 ltT js):=by
 have hp:SortP (fun a b=>Z2P n a b) js:=by
  refine SortP.of_key ZJ (fun a ha b hb=>?_) (Z9f js (fun k h=>(hk k h).1) hd)
  exact ⟨_,Zcj n a b (hk a ha).1 (hk b hb).1 (hk a ha).2.1 (hk b hb).2.1 (hk a ha).2.2 (hk b hb).2.2,Zaj _ _⟩
 rw [Z1t,ZjW h1 hl hp]
 congr 1
 refine ZaV js fun a ha b hb=>?_
 unfold ltM
 dsimp only
 rw [Zcj n a b (hk a ha).1 (hk b hb).1 (hk a ha).2.1 (hk b hb).2.1 (hk a ha).2.2 (hk b hb).2.2]
 simp only [ltT,Zaj]
theorem Z9c (n:Nat) (t:TreeTree) (slf:TreeTree -> Option TreeTree) (hs:t.Kids.length <= 1000000000) (hf:∀ k ∈ t.Kids,slf k = some (Z5 k)):∀ (m i:Nat) (acc:List TreeTree),i <= t.Kids.length -> t.Kids.length - i < m -> acc.length = i ->
 Z3f n t slf m (i:Int) acc = Z3c n t (acc ++ Z2Q (t.Kids.drop i))
 | 0,i,acc,h,hm,_=>absurd hm (Nat.not_lt_zero _)
 | m + 1,i,acc,h,hm,hc=>by
   rw [Z3f]
   by_cases hi:i < t.Kids.length
   ·obtain ⟨x,hx⟩:=Z8 hi
    rw [if_pos (by simpa using hi),Z2,hx,Option.bind_some,hf x (List.mem_of_getElem? hx),Option.bind_some,if_pos (by simp; omega),Option.bind_some,wrapN (by omega),
     Z9c n t slf hs hf m (i + 1) _ (by omega) (by omega) (by simp; omega),Z9 hx,Z2Q,List.append_assoc]
    rfl
   ·rw [if_neg (by simpa using hi),List.drop_eq_nil_of_le (by omega),Z2Q,List.append_nil]
theorem ZcV {len:Int}:∀ (t:TreeTree) (n:Nat),Ok len t -> (lv t).Nodup -> szT t <= 1000000000 -> szT t < n -> Z2Y n t = some (Z5 t):=by
 intro t
 induction t using Z25 with
 | h K N ks ih =>
   intro n hOk hd hb hn
   obtain ⟨m,rfl,hlen,hkm⟩:=Z5i hn
   have hl:=Z36 ks
   rw [szT] at hb
   rw [Ok] at hOk
   rw [Z2Y,show (0:Int) = ((0:Nat):Int) from rfl]
   rcases hOk with ⟨rfl,rfl,h1,h2⟩ | ⟨hK,rfl,h2,h3,h4⟩
   ·rw [Z9c m _ _ (by simp [Z1]) (fun k hk=>by simp [Z1] at hk) m 0 [] (by omega) (by rw [Z1]; omega) rfl]
    rw [Z3c,if_neg (by rw [Zi]; decide),Z5]
    simp [Z1,Zi,Z1v,Z2Q]
   ·rw [OkL_iff] at h4
    rw [lv,if_neg (by omega),if_pos hK] at hd
    have hdk:∀ k ∈ ks,(lv k).Nodup:=fun k hk=>Z80 hd hk
    rw [Z9c m _ _ (by rw [Z1]; omega) (fun k hk=>by
     rw [Z1] at hk
     have:=Z3J hk
     exact ih k hk m (h4 k hk) (hdk k hk) (by omega) (hkm k hk)) m 0 [] (by omega) (by rw [Z1]; omega) rfl]
    rw [Z3c,Zi,Z1v,Z1,List.drop_zero,List.nil_append,Z5]
    by_cases hK2:K = 2
    ·subst hK2
     have hpl:(lvs (Z2Q ks)).Perm (lvs ks):=by
      have:=Z57 (.mk 1 0 ks)
      simpa [Z5,lv] using this
     rw [if_pos (show ((2:Int) == 2) = true from rfl),if_pos (show (2:Int) = 2 from rfl),ZkA m (Z2Q ks) (by rw [Z3s,List.length_map]; omega) (fun k hk=>?_) (by rw [Z3s,List.length_map]; omega) (hpl.nodup_iff.2 hd)]
     ·rfl
     ·rw [Z3s] at hk
      obtain ⟨j,hj,rfl⟩:=List.mem_map.1 hk
      have:=Z3J hj
      rw [Zae]
      exact ⟨(Ok_lv (Z6Y (h4 j hj))).1,by omega,hkm j hj⟩
    ·rw [if_neg (by simpa using hK2),if_neg hK2]
end Go.G
namespace Go.G
open Go.Av
def strLL:Str:=⟨#[76]⟩
def strRR:Str:=⟨#[82]⟩
inductive Red (l:List ReduceEdge):List ReduceEdge -> Prop
 | par {i j:Nat} {x y:ReduceEdge} (hx:l[i]? = some x) (hy:l[j]? = some y) (hij:i < j) (hp:y.pair = x.pair):Red l ((l.set i ⟨x.pair,joinT 2 x.t_ y.t_⟩).eraseIdx j)
 | ser {i j:Nat} {x y:ReduceEdge} (hx:l[i]? = some x) (hy:l[j]? = some y) (hL:x.pair.to_ ≠ strLL) (hR:x.pair.to_ ≠ strRR) (hyf:y.pair.from_ = x.pair.to_)
    (hto:∀ (k:Nat) (e:ReduceEdge),l[k]? = some e -> e.pair.to_ = x.pair.to_ -> k = i) (hfr:∀ (k:Nat) (e:ReduceEdge),l[k]? = some e -> e.pair.from_ = x.pair.to_ -> k = j) :
    Red l ((l.set i ⟨⟨x.pair.from_,y.pair.to_⟩,joinT 1 x.t_ y.t_⟩).eraseIdx j)
inductive Reds (l:List ReduceEdge):List ReduceEdge -> Prop
 | refl:Reds l l
 | tail {l1 l2:List ReduceEdge} (h:Reds l l1) (k:Red l1 l2):Reds l l2
theorem Reds.trans {l l1 l2:List ReduceEdge} (h:Reds l l1) (k:Reds l1 l2):Reds l l2:=by
 induction k with
 | refl=>exact h
 | tail _ k ih=>exact ih.tail k
theorem Red.length {l l':List ReduceEdge} (h:Red l l'):l'.length + 1 = l.length:=by
 cases h with
 | par hx hy _ _ =>
   have:=Zd hy
   rw [List.length_eraseIdx_of_lt (by rw [List.length_set]; exact this),List.length_set]; omega
 | ser hx hy _ _ _ _ _ =>
   have:=Zd hy
   rw [List.length_eraseIdx_of_lt (by rw [List.length_set]; exact this),List.length_set]; omega
theorem RInv.red {len:Nat} {rank:Str -> Nat} {l l':List ReduceEdge} (h:RInv len rank l) (k:Red l l'):RInv len rank l':=by
 cases k with
 | par hx hy hij hp=>exact h.step hx hy (by omega) (.inr rfl) _ (h.rk _ (List.mem_of_getElem? hx))
 | @ser i j x y hx hy _ _ hyf _ _ =>
  have r1:=h.rk _ (List.mem_of_getElem? hx)
  have r2:=h.rk _ (List.mem_of_getElem? hy)
  rw [hyf] at r2
  refine h.step hx hy (fun e=>?_) (.inl rfl) _ (Nat.lt_trans r1 r2)
  subst e
  rw [hx] at hy; cases hy
  rw [hyf] at r1; omega
theorem RInv.reds {len:Nat} {rank:Str -> Nat} {l l':List ReduceEdge} (h:RInv len rank l) (k:Reds l l'):RInv len rank l':=by
 induction k with
 | refl=>exact h
 | tail _ k ih=>exact ih.red k
theorem ZhG {l:List Nat} {x:Nat} (h:x ∈ l):x <= l.sum:=by
 induction l with
 | nil=>cases h
 | cons y l ih =>
   rw [List.sum_cons]
   rcases List.mem_cons.1 h with rfl | h
   ·omega
   ·have:=ih h; omega
theorem Zet:∀ l:List ReduceEdge,l.length <= (l.map fun e=>szT e.t_ + 1).sum
 | []=>by simp
 | e :: l=>by have:=Zet l; simp only [List.length_cons,List.map_cons,List.sum_cons]; omega
theorem RInv.szT {len:Nat} {rank:Str -> Nat} {l:List ReduceEdge} (h:RInv len rank l) {e:ReduceEdge} (he:e ∈ l):szT e.t_ + 1 <= 2 * len :=
 Nat.le_trans (ZhG (List.mem_map.2 ⟨e,he,rfl⟩)) h.sz
theorem RInv.len {len:Nat} {rank:Str -> Nat} {l:List ReduceEdge} (h:RInv len rank l):l.length <= 2 * len:=Nat.le_trans (Zet l) h.sz
theorem Zjy (K:Int) (a:TreeTree):(joinK K a).length <= szT a:=by
 unfold joinK
 split
 ·obtain ⟨K',N,ks⟩:=a
  have:=Z36 ks
  rw [Z1,Go.G.szT]; omega
 ·have:=Z8k a; simp; omega
theorem ZaW (K:Int) (l:List TreeTree) (hs:l.length <= 1000000000):∀ (m i:Nat) (acc:List TreeTree),i <= l.length -> l.length - i < m -> acc.length + szL (l.drop i) <= 1000000000 ->
 Z3k K l m (i:Int) acc = some (.mk K 0 (acc ++ (l.drop i).flatMap (joinK K)))
 | 0,i,acc,h,hm,_=>absurd hm (Nat.not_lt_zero _)
 | m + 1,i,acc,h,hm,hc=>by
   rw [Z3k]
   by_cases hi:i < l.length
   ·obtain ⟨x,hx⟩:=Z8 hi
    rw [Z9 hx,szL] at hc
    have hj:=Zjy K x
    rw [if_pos (by simpa using hi),Z2,hx,Option.bind_some,Z9 hx,List.flatMap_cons]
    by_cases hk:x.Kind = K
    ·have e:joinK K x = x.Kids:=by rw [joinK,if_pos hk]
     rw [e] at hj
     rw [if_pos (by simpa using hk),if_pos (by omega),Option.bind_some,wrapN (by omega),ZaW K l hs m (i + 1) _ (by omega) (by omega) (by rw [List.length_append]; omega),e,List.append_assoc]
    ·have e:joinK K x = [x]:=by rw [joinK,if_neg hk]
     rw [e] at hj
     rw [if_neg (by simpa using hk),if_pos (by omega),Option.bind_some,wrapN (by omega),ZaW K l hs m (i + 1) _ (by omega) (by omega) (by rw [List.length_append]; omega),e,List.append_assoc]
   ·rw [if_neg (by simpa using hi),List.drop_eq_nil_of_le (by omega)]; simp
theorem ZbW (n:Nat) (K:Int) (a b:TreeTree) (hn:2 < n) (ha:szT a <= 100000000) (hb:szT b <= 100000000):Z5B n K a b = some (joinT K a b):=by
 rw [Z5B,Option.bind_some,show (0:Int) = ((0:Nat):Int) from rfl,ZaW K [a,b] (by simp) n 0 [] (by simp) (by simpa using hn) (by simp [szL]; omega)]
 simp [joinT]
theorem ZdU (n:Nat) (l:List ReduceEdge) (i:Nat) (hi:i < l.length):Z1b n (i:Int) ((i + 1:Nat):Int) l = some (l.eraseIdx i):=by
 rw [Z1b]
 simp only [Int.toNat_natCast]
 have e:(l.take i ++ (l.drop (i + 1) ++ l.drop (i + (l.length - (i + 1))))).length = l.length + 0:=by simp; omega
 rw [if_pos (by omega),if_neg (by simp; omega),if_pos (by omega),if_pos (by omega),if_pos (by omega),Option.bind_some,if_pos (by omega),if_pos (by omega)]
 rw [<- List.append_assoc,List.take_append_of_le_length (by simp; omega),List.take_of_length_le (by simp; omega),List.eraseIdx_eq_take_drop_succ]
theorem Zgr (n:Nat) (y x:ReduceEdge):Z3V n y x = some (decide (y.pair = x.pair)):=by
 rw [Z3V]
 obtain ⟨⟨a,b⟩,t⟩:=y
 obtain ⟨⟨c,d⟩,u⟩:=x
 by_cases h1:a = c <;> by_cases h2:b = d <;> simp [h1,h2]
theorem Zd1 (n s:Nat) (l:List ReduceEdge) (x:ReduceEdge) (hs:l.length <= 1000000000):∀ (m i:Nat),i <= l.length - s -> l.length - s - i < m ->
 ∃ r:Int,Zl n s l x m (i:Int) = some r /\ (r = -1 \/ ∃ (k:Nat) (y:ReduceEdge),r = (k:Int) /\ l[s + k]? = some y /\ y.pair = x.pair)
 | 0,i,h,hm=>absurd hm (Nat.not_lt_zero _)
 | m + 1,i,h,hm=>by
   rw [Zl]
   by_cases hi:i < l.length - s
   ·obtain ⟨y,hy⟩:=Z8 (l:=l.drop s) (i:=i) (by simpa using hi)
    rw [if_pos (by simpa using hi),Z2,hy,Option.bind_some,Zgr,Option.bind_some]
    by_cases hp:y.pair = x.pair
    ·rw [if_pos (by simpa using hp)]
     exact ⟨_,rfl,.inr ⟨i,y,rfl,by rw [<- List.getElem?_drop]; exact hy,hp⟩⟩
    ·rw [if_neg (by simpa using hp),wrapN (by omega)]
     exact Zd1 n s l x hs m (i + 1) (by omega) (by omega)
   ·rw [if_neg (by simpa using hi)]
    exact ⟨_,rfl,.inl rfl⟩
section
variable {len:Nat} {rank:Str -> Nat} (hlen:len <= 1000000) (n:Nat) (hn:2 * len + 10 <= n)
include hlen hn
theorem ZcS {l:List ReduceEdge} (h:RInv len rank l):∀ (m i:Nat),i <= l.length -> l.length - i < m ->
 ∃ b l',Z1e n l m (i:Int) = some (b,l') /\ (b = false /\ l' = l \/ b = true /\ Red l l')
 | 0,i,h,hm=>absurd hm (Nat.not_lt_zero _)
 | m + 1,i,hi0,hm=>by
   have hl:=h.len
   rw [Z1e]
   by_cases hi:i < l.length
   ·obtain ⟨x,hx⟩:=Z8 hi
    have mx:=List.mem_of_getElem? hx
    obtain ⟨r,hr,hcase⟩:=Zd1 n (i + 1) l x (by omega) n 0 (by omega) (by omega)
    have hidx:Z12 n (i + 1) l x = some r:=hr
    rw [if_pos (by simpa using hi),Z2,hx,Option.bind_some,wrapN (by omega),if_pos (by omega),Int.toNat_natCast,hidx,Option.bind_some]
    rcases hcase with rfl | ⟨k,y,rfl,hy,hp⟩
    ·rw [if_neg (by decide)]
     exact ZcS h m (i + 1) (by omega) (by omega)
    ·have hj:=Zd hy
     have my:=List.mem_of_getElem? hy
     have s1:=h.szT mx
     have s2:=h.szT my
     rw [if_pos (by simp),wrapI (by omega) (by omega),show ((i + 1:Nat):Int) + (k:Int) = ((i + 1 + k:Nat):Int) by omega,Z2,hy,Option.bind_some,ZbW n 2 _ _ (by omega) (by omega) (by omega),Option.bind_some,Option.bind_some]
     rw [wrapI (i:=(i:Int) + 2) (by omega) (by omega),wrapI (i:=(i:Int) + 2 + (k:Int)) (by omega) (by omega),show (i:Int) + 2 + (k:Int) = ((i + 1 + k + 1:Nat):Int) by omega,Int.toNat_natCast]
     rw [ZdU n _ (i + 1 + k) (by rw [List.length_set]; exact hj),Option.bind_some]
     exact ⟨true,_,rfl,.inr ⟨rfl,.par hx hy (by omega) hp⟩⟩
   ·rw [if_neg (by simpa using hi)]
    exact ⟨false,l,rfl,.inl ⟨rfl,rfl⟩⟩
omit hlen hn in
theorem ZeT {α:Type} {l:List α} {k:Nat} {e:α} (h:l[k]? = some e):l.take (k + 1) = l.take k ++ [e]:=by rw [List.take_add_one,h]; rfl
omit hlen hn in
theorem Zac {α:Type} (p:α -> Bool):∀ {l:List α} {i k:Nat} {a b:α},l.countP p = 1 -> l[i]? = some a -> p a = true -> l[k]? = some b -> p b = true -> i = k
 | [],i,k,a,b,h,_,_,_,_=>by simp at h
 | c :: l,i,k,a,b,h,hi,pa,hk,pb=>by
   rw [List.countP_cons] at h
   have none_of:l.countP p = 0 -> ∀ (j:Nat) (z:α),l[j]? = some z -> p z = true -> False:=fun h0 j z hz pz=>by
    rw [List.countP_eq_zero] at h0
    exact h0 z (List.mem_of_getElem? hz) pz
   cases hc:p c with
   | true =>
     rw [hc,if_pos rfl] at h
     have h0:l.countP p = 0:=by omega
     match i,k,hi,hk with
     | 0,0,_,_=>rfl
     | i + 1,_,hi,_=>exact absurd (none_of h0 i a (by simpa using hi) pa) id
     | 0,k + 1,_,hk=>exact absurd (none_of h0 k b (by simpa using hk) pb) id
   | false =>
     rw [hc,if_neg (by simp)] at h
     match i,k,hi,hk with
     | 0,_,hi,_=>simp at hi; subst hi; rw [hc] at pa; cases pa
     | i + 1,0,_,hk=>simp at hk; subst hk; rw [hc] at pb; cases pb
     | i + 1,k + 1,hi,hk =>
       have:=Zac p (l:=l) (i:=i) (k:=k) (by simpa using h) (by simpa using hi) pa (by simpa using hk) pb
       omega
omit hlen hn in
theorem Z8O (l:List ReduceEdge) (hs:l.length <= 1000000000) (p:Int) (R:Int -> Option (Bool × List ReduceEdge)) (x:ReduceEdge):∀ (m k on:Nat),k <= l.length -> l.length - k < m ->
 (0 < (l.take k).countP (fun e=>decide (e.pair.from_ = x.pair.to_)) -> ∃ y,l[on]? = some y /\ y.pair.from_ = x.pair.to_) ->
 ∃ on':Nat,Z1d n l p R x m (k:Int) (((l.take k).countP fun e=>decide (e.pair.to_ = x.pair.to_):Nat):Int) (((l.take k).countP fun e=>decide (e.pair.from_ = x.pair.to_):Nat):Int) (on:Int)
   = Z1W n l p R x ((l.countP fun e=>decide (e.pair.to_ = x.pair.to_):Nat):Int) ((l.countP fun e=>decide (e.pair.from_ = x.pair.to_):Nat):Int) (on':Int) /\
   (0 < l.countP (fun e=>decide (e.pair.from_ = x.pair.to_)) -> ∃ y,l[on']? = some y /\ y.pair.from_ = x.pair.to_)
 | 0,k,on,h,hm,_=>absurd hm (Nat.not_lt_zero _)
 | m + 1,k,on,h,hm,ho=>by
   rw [Z1d]
   by_cases hk:k < l.length
   ·obtain ⟨y,hy⟩:=Z8 hk
    have c1:=List.countP_le_length (p:=fun e:ReduceEdge=>decide (e.pair.to_ = x.pair.to_)) (l:=l.take k)
    have c2:=List.countP_le_length (p:=fun e:ReduceEdge=>decide (e.pair.from_ = x.pair.to_)) (l:=l.take k)
    rw [List.length_take] at c1 c2
    have e1:(l.take (k + 1)).countP (fun e=>decide (e.pair.to_ = x.pair.to_)) = (l.take k).countP (fun e=>decide (e.pair.to_ = x.pair.to_)) + if decide (y.pair.to_ = x.pair.to_) = true then 1 else 0:=by
     rw [ZeT hy,List.countP_append,List.countP_singleton]
    have e2:(l.take (k + 1)).countP (fun e=>decide (e.pair.from_ = x.pair.to_)) = (l.take k).countP (fun e=>decide (e.pair.from_ = x.pair.to_)) + if decide (y.pair.from_ = x.pair.to_) = true then 1 else 0:=by
     rw [ZeT hy,List.countP_append,List.countP_singleton]
    rw [if_pos (by simpa using hk),Z2,hy,Option.bind_some]
    have key:∀ q:Int,q = (((l.take (k + 1)).countP fun e=>decide (e.pair.to_ = x.pair.to_):Nat):Int) ->
     ∃ on':Nat,Z2l x (k:Int) (((l.take k).countP fun e=>decide (e.pair.from_ = x.pair.to_):Nat):Int) (on:Int) (Z1d n l p R x m) y q
       = Z1W n l p R x ((l.countP fun e=>decide (e.pair.to_ = x.pair.to_):Nat):Int) ((l.countP fun e=>decide (e.pair.from_ = x.pair.to_):Nat):Int) (on':Int) /\
       (0 < l.countP (fun e=>decide (e.pair.from_ = x.pair.to_)) -> ∃ y,l[on']? = some y /\ y.pair.from_ = x.pair.to_):=by
     rintro q rfl
     rw [Z2l]
     by_cases hf:y.pair.from_ = x.pair.to_
     ·rw [if_pos (by simpa using hf),wrapN (by omega),wrapN (by omega)]
      have:=Z8O l hs p R x m (k + 1) k (by omega) (by omega) (fun _=>⟨y,hy,hf⟩)
      rw [e2,if_pos (by simpa using hf)] at this
      exact this
     ·rw [if_neg (by simpa using hf),wrapN (by omega)]
      have:=Z8O l hs p R x m (k + 1) on (by omega) (by omega) (fun h=>ho (by rw [e2,if_neg (by simpa using hf)] at h; omega))
      rw [e2,if_neg (by simpa using hf)] at this
      exact this
    by_cases ht:y.pair.to_ = x.pair.to_
    ·rw [if_pos (by simpa using ht),wrapN (by omega)]
     exact key _ (by rw [e1,if_pos (by simpa using ht)])
    ·rw [if_neg (by simpa using ht)]
     exact key _ (by rw [e1,if_neg (by simpa using ht)]; rfl)
   ·rw [if_neg (by simpa using hk)]
    rw [List.take_of_length_le (by omega)] at ho ⊢
    exact ⟨on,rfl,ho⟩
theorem ZcT {l:List ReduceEdge} (h:RInv len rank l):∀ (m i:Nat),i <= l.length -> l.length - i < m ->
 ∃ b l',Zq n l m (i:Int) = some (b,l') /\ (b = false /\ l' = l \/ b = true /\ Red l l')
 | 0,i,h,hm=>absurd hm (Nat.not_lt_zero _)
 | m + 1,i,hi0,hm=>by
   have hl:=h.len
   rw [Zq]
   by_cases hi:i < l.length
   ·obtain ⟨x,hx⟩:=Z8 hi
    have mx:=List.mem_of_getElem? hx
    have ih:=ZcT h m (i + 1) (by omega) (by omega)
    rw [if_pos (by simpa using hi),Z2,hx,Option.bind_some,wrapN (by omega)]
    by_cases hL:x.pair.to_ = (⟨#[76]⟩:Str)
    ·rw [if_pos (by simpa using hL)]; exact ih
    rw [if_neg (by simpa using hL)]
    by_cases hR:x.pair.to_ = (⟨#[82]⟩:Str)
    ·rw [if_pos (by simpa using hR)]; exact ih
    rw [if_neg (by simpa using hR)]
    obtain ⟨on,e1,e2⟩:=Z8O n l (by omega) (i:Int) (Zq n l m) x n 0 0 (by omega) (by omega) (by simp)
    simp only [List.take_zero,List.countP_nil,Int.natCast_zero] at e1
    rw [e1,Z1W,wrapN (i:=i) (by omega)]
    by_cases c1:l.countP (fun e=>decide (e.pair.to_ = x.pair.to_)) = 1
    ·rw [if_pos (by simpa using by omega)]
     by_cases c2:l.countP (fun e=>decide (e.pair.from_ = x.pair.to_)) = 1
     ·rw [if_pos (by simpa using by omega)]
      obtain ⟨y,hy,hyf⟩:=e2 (by omega)
      have hj:=Zd hy
      have my:=List.mem_of_getElem? hy
      have s1:=h.szT mx
      have s2:=h.szT my
      rw [Z2,hy,Option.bind_some,ZbW n 1 _ _ (by omega) (by omega) (by omega),Option.bind_some,Option.bind_some,wrapN (i:=on) (by omega),Int.toNat_natCast,ZdU n _ on (by rw [List.length_set]; exact hj),Option.bind_some]
      refine ⟨true,_,rfl,.inr ⟨rfl,.ser hx hy hL hR hyf (fun k e hk he=>?_) (fun k e hk he=>?_)⟩⟩
      ·exact Zac _ c1 hk (by simpa using he) hx (by simp)
      ·exact Zac _ c2 hk (by simpa using he) hy (by simpa using hyf)
     ·rw [if_neg (by simpa using by omega)]; exact ih
    ·rw [if_neg (by simpa using by omega)]; exact ih
   ·rw [if_neg (by simpa using hi)]
    exact ⟨false,l,rfl,.inl ⟨rfl,rfl⟩⟩
theorem ZcI:∀ (m:Nat) (l:List ReduceEdge) (g:Bool),RInv len rank l -> l.length + 2 <= m -> ∃ l',Reds l l' /\ Z1c n m l g = Z2y n l'
 | 0,l,g,h,hm=>absurd hm (by omega)
 | m + 1,l,g,h,hm=>by
   rw [Z1c]
   cases g with
   | false=>exact ⟨l,.refl,by simp⟩
   | true =>
     have hl:=h.len
     rw [if_pos rfl]
     obtain ⟨b1,l1,p1,q1⟩:=ZcS hlen n hn h n 0 (by omega) (by omega)
     have p1:Z3w n l = some (b1,l1):=p1
     rw [p1,Option.bind_some]
     dsimp only
     have h1:RInv len rank l1 /\ Reds l l1 /\ l1.length <= l.length /\ (b1 = true -> l1.length + 1 = l.length):=by
      rcases q1 with ⟨rfl,rfl⟩ | ⟨rfl,q⟩
      ·exact ⟨h,.refl,Nat.le_refl _,fun e=>by cases e⟩
      ·exact ⟨h.red q,.tail .refl q,by have:=q.length; omega,fun _=>q.length⟩
     obtain ⟨i1,s1,z1,z1'⟩:=h1
     have hl1:=i1.len
     obtain ⟨b2,l2,p2,q2⟩:=ZcT hlen n hn i1 n 0 (by omega) (by omega)
     have p2:Z4n n l1 = some (b2,l2):=p2
     rw [p2,Option.bind_some]
     dsimp only
     have h2:RInv len rank l2 /\ Reds l1 l2 /\ l2.length <= l1.length /\ (b2 = true -> l2.length + 1 = l1.length):=by
      rcases q2 with ⟨rfl,rfl⟩ | ⟨rfl,q⟩
      ·exact ⟨i1,.refl,Nat.le_refl _,fun e=>by cases e⟩
      ·exact ⟨i1.red q,.tail .refl q,by have:=q.length; omega,fun _=>q.length⟩
     obtain ⟨i2,s2,z2,z2'⟩:=h2
     cases b1 with
     | true =>
       rw [if_pos rfl]
       obtain ⟨l',t1,t2⟩:=ZcI m l2 true i2 (by have:=z1' rfl; omega)
       exact ⟨l',(s1.trans s2).trans t1,t2⟩
     | false =>
       rw [if_neg (by simp)]
       cases b2 with
       | true =>
         obtain ⟨l',t1,t2⟩:=ZcI m l2 true i2 (by have:=z2' rfl; omega)
         exact ⟨l',(s1.trans s2).trans t1,t2⟩
       | false =>
         obtain ⟨q,rfl⟩:∃ q,m = q + 1:=⟨m - 1,by omega⟩
         exact ⟨l2,s1.trans s2,by rw [Z1c,if_neg (by simp)]⟩
def redS:List ReduceEdge -> TreeTree × Int
 | [x]=>if x.pair.from_ = strLL /\ x.pair.to_ = strRR then (Z5 x.t_,0) else (.mk 0 0 [],14)
 | _=>(.mk 0 0 [],14)
theorem J2_eq {l:List ReduceEdge} (h:RInv len rank l):Z2y n l = some (redS l):=by
 rw [Z2y]
 match l,h with
 | [],_=>rfl
 | x :: y :: l,_ =>
   rw [if_pos (by simp; omega)]; rfl
 | [x],h =>
  have hx:x ∈ [x]:=by simp
  have hsz:=h.szT hx
  have hnd:(lv x.t_).Nodup:=by have:=h.lv; simpa using this
  rw [if_neg (by simp),show atI [x] 0 = some x from rfl,Option.bind_some,redS]
  by_cases h1:x.pair.from_ = strLL
  ·by_cases h2:x.pair.to_ = strRR
   ·rw [if_neg (by simp [h1,h2,strLL,strRR]),if_pos ⟨h1,h2⟩,ZcV x.t_ n (h.ok x hx) hnd (by omega) (by omega)]; rfl
   ·rw [if_pos (by simp only [strRR] at h2; simp [h2]),if_neg (fun q=>h2 q.2)]
  ·rw [if_pos (by simp only [strLL] at h1; simp [h1]),if_neg (fun q=>h1 q.1)]
end
def Z1z:List ApiContact -> Nat -> List ReduceEdge
 | [],_=>[]
 | c :: cs,i=>⟨⟨c.From,c.To⟩,.mk 0 (i:Int) []⟩ :: Z1z cs (i + 1)
theorem Z9O:∀ (cs:List ApiContact) (i k:Nat),(Z1z cs i)[k]? = (cs[k]?).map fun c=>⟨⟨c.From,c.To⟩,.mk 0 ((i + k:Nat):Int) []⟩
 | [],i,k=>by simp [Z1z]
 | c :: cs,i,0=>by simp [Z1z]
 | c :: cs,i,k + 1=>by
   rw [Z1z,List.getElem?_cons_succ,List.getElem?_cons_succ,Z9O cs (i + 1) k]
   congr 1; funext c; congr 3; omega
theorem Z88:∀ (cs:List ApiContact) (i:Nat),(Z1z cs i).length = cs.length
 | [],_=>rfl
 | c :: cs,i=>by rw [Z1z,List.length_cons,List.length_cons,Z88 cs]
theorem Zb7:∀ (cs:List ApiContact) (i:Nat),((Z1z cs i).flatMap fun e=>lv e.t_) = (List.range' i cs.length).map fun k:Nat=>(k:Int)
 | [],_=>rfl
 | c :: cs,i=>by
   rw [Z1z,List.flatMap_cons,Zb7 cs,List.length_cons,List.range'_succ,List.map_cons]
   simp [lv]
theorem Zfd:∀ (cs:List ApiContact) (i:Nat),((Z1z cs i).map fun e=>szT e.t_ + 1).sum = 2 * cs.length
 | [],_=>rfl
 | c :: cs,i=>by
   rw [Z1z,List.map_cons,List.sum_cons,Zfd cs,List.length_cons]
   simp [szT,szL]; omega
theorem RInv.start (cs:List ApiContact) (rank:Str -> Nat) (hr:∀ c ∈ cs,rank c.From < rank c.To):RInv cs.length rank (Z1z cs 0):=by
 have hget:∀ e ∈ Z1z cs 0,∃ (k:Nat) (c:ApiContact),k < cs.length /\ c ∈ cs /\ e = ⟨⟨c.From,c.To⟩,.mk 0 (k:Int) []⟩:=fun e he=>by
  obtain ⟨k,hk⟩:=List.getElem?_of_mem he
  rw [Z9O] at hk
  obtain ⟨c,hc,rfl⟩:=Option.map_eq_some_iff.1 hk
  exact ⟨k,c,Zd hc,List.mem_of_getElem? hc,by simp⟩
 refine ⟨fun e he=>?_,?_,?_,fun e he=>?_,Nat.le_of_eq (Zfd cs 0)⟩
 ·obtain ⟨k,c,hk,_,rfl⟩:=hget e he
  show Ok _ (.mk 0 (k:Int) [])
  rw [Ok]
  exact .inl ⟨rfl,rfl,by omega,by omega⟩
 ·rw [Zb7]
  have:∀ (a k:Nat),((List.range' a k).map fun k:Nat=>(k:Int)).Nodup:=fun a k=>by
   refine List.pairwise_map.2 ?_
   exact (List.nodup_range' (s:=a) (n:=k)).imp fun h e=>h (by exact_mod_cast e)
  exact this _ _
 ·rw [Zb7]; simp
 ·obtain ⟨k,c,_,hc,rfl⟩:=hget e he
  exact hr c hc
theorem Z9M (n:Nat) (r:ApiRung) (hs:r.Contacts.length <= 1000000):∀ (m i:Nat) (acc:List ReduceEdge),i <= r.Contacts.length -> r.Contacts.length - i < m -> acc.length = i ->
 Z39 n r m (i:Int) acc = Z3a n (acc ++ Z1z (r.Contacts.drop i) i)
 | 0,i,acc,h,hm,_=>absurd hm (Nat.not_lt_zero _)
 | m + 1,i,acc,h,hm,ha=>by
   rw [Z39]
   by_cases hi:i < r.Contacts.length
   ·obtain ⟨x,hx⟩:=Z8 hi
    rw [if_pos (by simpa using hi),Z2,hx,Option.bind_some,if_pos (by simp; omega),Option.bind_some,wrapN (by omega),Z9M n r hs m (i + 1) _ (by omega) (by omega) (by simp; omega),Z9 hx,Z1z,List.append_assoc]
    rfl
   ·rw [if_neg (by simpa using hi),List.drop_eq_nil_of_le (by omega),Z1z,List.append_nil]
theorem Zjt (n:Nat) (r:ApiRung) (hl:r.Contacts.length <= 1000000) (hn:2 * r.Contacts.length + 10 <= n) {e:Int} (hc:Z58 n r = some e) (hr:e = 0 -> ∃ rank:Str -> Nat,∀ c ∈ r.Contacts,rank c.From < rank c.To) :
 (e ≠ 0 /\ Z14 n r = some (.mk 0 0 [],e)) \/ (e = 0 /\ ∃ l,Reds (Z1z r.Contacts 0) l /\ Z14 n r = some (redS l)):=by
 rw [Z14,hc,Option.bind_some]
 by_cases he:e = 0
 ·right
  obtain ⟨rank,hrk⟩:=hr he
  have h0:=RInv.start r.Contacts rank hrk
  rw [if_neg (by simpa using he),show (0:Int) = ((0:Nat):Int) from rfl,Z9M n r hl n 0 [] (by omega) (by omega) rfl,List.drop_zero,List.nil_append,Z3a]
  obtain ⟨l,h1,h2⟩:=ZcI (rank:=rank) hl n hn n (Z1z r.Contacts 0) true h0 (by rw [Z88]; omega)
  rw [h2]
  exact ⟨he,l,h1,J2_eq hl n hn (h0.reds h1)⟩
 ·left
  rw [if_pos (by simpa using he)]
  exact ⟨he,rfl⟩
end Go.G
