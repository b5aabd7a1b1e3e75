/- P3IW -/
import Derived.Test.YtlpkhgkoihlghaaGreatDoorChecked
import Derived.Test.YtlpkhgkoihlghaaGreatDoorLaid
import Derived.Test.YtlpkhgkoihlghaaGreatDoorM4
import Derived.Shelf.SlicesE.Delete
set_option linter.unusedVariables false
set_option linter.unusedSimpArgs false
namespace Go.Proofs.YtlpkhgkoihlghaaGreatDoor.P
open Go Go.Abs Go.Proofs Go.Lib Go.Sort Go.RowKit Go.Shelf
set_option maxRecDepth 100000
set_option maxHeartbeats 4000000
theorem NY:Tryz.prog.underlying 29 = some (TypeDesc.slice 30):=by kernel_rfl
theorem c5:(Tryz.prog.info? 30).map (fun i=>(i.zero,i.size,i.bytes)) = some (some (Value.slice none 0 0),1,24):=by kernel_rfl
theorem f2 {vb vc:Nat} {x:Value} {w:World} (hx:w.cell? ⟨vb,0,none⟩ = some x) (h1:x.oneCell' = true):Src Tryz.prog 1 29 (.slice (some ⟨vb,0,none⟩) 1 vc) 1 [x] w:=Src.ofSlice w NY ⟨vb,0,none⟩ 1 vc [x] (by simp) (fun j u hj=>by
 match j,hj with
 | 0,hj=>simp at hj; subst hj; exact hx
 | j + 1,hj=>simp at hj) (fun v hv=>by simp at hv; subst hv; exact h1)
theorem c6 (b n c vb vc:Nat) (x:Value) (w:World) (hroom:n + 1≤c) (hc63:c≤9223372036854775807)
 (hsp:(w.cell? ⟨b,n,none⟩).isSome = true) (hfz:w.frozen? ⟨b,n,none⟩ = false) (hx:w.cell? ⟨vb,0,none⟩ = some x) (h1:x.oneCell' = true) :
 Calls Tryz.prog 200 #[.slice (some ⟨b,0,none⟩) n c,.int .i64 n,.slice (some ⟨vb,0,none⟩) 1 vc] w fun e w'=>e = .returned (.slice (some ⟨b,0,none⟩) (n + 1) c)∧w' = w.setCells b n [x]:=by
 have hsrc:=f2 (vc:=vc) hx h1
 have hz1:¬ ((1:Int) = 0):=by omega
 go_enter Tryz.func200,Tryz.ntmps200
 go_wp2_with (at_builtin; refine wpList_append_room1 _ rfl _ _ 29 29 rfl 30 _ _ NY c5 b 0 n c rfl _ rfl 1 [x] hsrc hroom (fun j hj=>by simp at hj; subst hj; simpa using hsp) (fun j hj=>by simp at hj; subst hj; simpa using hfz) ?_)
 go_ret
 exact ⟨rfl,by simp⟩
theorem c7 (base:Option Addr) (n c vb vc:Nat) (cs:List Value) (x:Value) (w:World) (hnc:n≤c) (hroom:c < n + 1) (hbig:(n + 1) * 24≤140737488355328) (hcl:cs.length = n) (hnil:base = none→n = 0)
 (hcs:∀ a,base = some a→∀ j v,cs[j]? = some v→w.cell? (a.add j) = some v) (hx:w.cell? ⟨vb,0,none⟩ = some x) (h1:x.oneCell' = true) :
 Calls Tryz.prog 200 #[.slice base n c,.int .i64 n,.slice (some ⟨vb,0,none⟩) 1 vc] w fun e w' =>
  e = .returned (.slice (some ⟨w.heap.size,0,none⟩) (n + 1) (grownCap w (n + 1) c 30)) ∧
  w' = w.drew.alloc (.cells ((cs++[x]).toArray++Builtin.zeroCells (Value.slice none 0 0).cells (grownCap w (n + 1) c 30 - (n + 1))) 30):=by
 obtain ⟨i0,hi0,hz0,hzs,hzb⟩:=info_parts c5
 have hz1:¬ ((1:Int) = 0):=by omega
 have hsrc:Src Tryz.prog i0.size 29 (.slice (some ⟨vb,0,none⟩) 1 vc) 1 [x] w:=by rw [hzs]; exact f2 hx h1
 have hold:(Builtin.firstCells i0.size n (.slice base n c)).run Tryz.prog w.drew = .ok cs.toArray w.drew:=by
  rw [hzs]
  cases base with
  | none =>
    have h0:=hnil rfl
    subst h0
    rw [List.length_eq_zero_iff.1 hcl]
    exact run_firstCells_none w.drew 1 0 0 c
  | some a=>exact run_firstCells_some w.drew 1 n a n c cs (by omega) (fun j v hj=>hcs a rfl j v hj)
 have hrun:∀ ty,(Builtin.append_ #[29,29] ty #[.slice base n c,.slice (some ⟨vb,0,none⟩) 1 vc]).run Tryz.prog w = _:=fun ty =>
  run_append_grow_src w 29 29 ty 30 i0 _ NY hi0 hz0 base n c cs hold _ 1 [x] hsrc hroom (by omega) (by rw [hzb]; exact growslice_fits hroom hbig)
 go_enter Tryz.func200,Tryz.ntmps200
 cases base with
 | none =>
   have h0:=hnil rfl
   subst h0
   go_wp2_with (at_builtin; refine Lib.wpList_append_run _ rfl _ _ _ _ rfl _ _ rfl rfl _ _ (hrun _) ?_)
   go_ret
   exact ⟨rfl,rfl⟩
 | some a =>
   obtain ⟨ab,ao,asp⟩:=a
   go_wp2_with (at_builtin; refine Lib.wpList_append_run _ rfl _ _ _ _ rfl _ _ rfl rfl _ _ (hrun _) ?_)
   all_goals (go_ret; exact ⟨rfl,rfl⟩)
theorem fW (w:World) {b vb k m vc lb cb:Nat} (hvb:vb≠b) {tA tB:TypeId} {kA kB:Nat} (hsa:w.shape? vb = some (tA,kA)) (hsb:w.shape? b = some (tB,kB)) (hkB:kB≠0) (hfa:w.frozen? ⟨vb,0,none⟩ = false) (hfe:w.frozen? ⟨vb,kA,none⟩ = false) :
 (callFunc 254 #[.slice (some ⟨vb,0,none⟩) m vc,.slice (some ⟨b,k,none⟩) lb cb]).run Tryz.prog w = .ok (.value (.bool false)) w:=by
 rw [run_callFunc_extern Tryz.func254 (by kernel_rfl) (by kernel_rfl) (by kernel_rfl) (e:=Extern.SlicesOverlaps.overlaps #[29,29] #[4]) (by kernel_rfl),
  Lib.run_overlaps_apart w 29 4 30 NY 1 (fun w=>Tryz.sizeOf30 w) ⟨vb,0,none⟩ ⟨b,k,none⟩ m vc lb cb hvb tA tB kA kB hsa hsb hkB hfa hfe]
 rfl
theorem UX {n m i c:Nat} (hi:i < n) (hm:0 < m) (hc63:n + m≤9223372036854775807):¬ ((m:Int) = 0)∧¬ ((i:Int) = (n:Int))∧IntKind.i64.wrap ((i:Int) + (m:Int)) = (i:Int) + (m:Int)∧(0:Int)≤(i:Int) + (m:Int)∧i≤n∧((i:Int) + (m:Int)).toNat = i + m∧(i:Int)≤(n:Int) + (m:Int) :=
 ⟨by omega,by omega,by rw [IntKind.wrap_i64]; omega,by omega,by omega,by omega,by omega⟩
theorem ZH (b n c i vb m vc:Nat) (cs vs:List Value) (w:World) (hi:i < n) (hm:0 < m) (hroom:n + m≤c) (hc63:c≤9223372036854775807) (hvb:vb≠b) (hcl:cs.length = n) (hvl:vs.length = m)
 (hcs:∀ j v,cs[j]? = some v→w.cell? ⟨b,j,none⟩ = some v) (hsp:∀ j,j < n + m→(w.cell? ⟨b,j,none⟩).isSome = true) (hfz:∀ j,w.frozen? ⟨b,j,none⟩ = false) (hvs:∀ j v,vs[j]? = some v→w.cell? ⟨vb,j,none⟩ = some v) (h1c:∀ v∈cs,v.oneCell' = true) (h1v:∀ v∈vs,v.oneCell' = true)
 {tA tB:TypeId} {kA kB:Nat} (hsa:w.shape? vb = some (tA,kA)) (hsb:w.shape? b = some (tB,kB)) (hkB:kB≠0) (hfa:∀ j,w.frozen? ⟨vb,j,none⟩ = false) :
 Calls Tryz.prog 200 #[.slice (some ⟨b,0,none⟩) n c,.int .i64 i,.slice (some ⟨vb,0,none⟩) m vc] w fun e w' =>
  e = .returned (.slice (some ⟨b,0,none⟩) (n + m) c)∧w' = (w.drew.setCells b (i + m) (cs.drop i)).setCells b i vs:=by
 obtain ⟨hz1,hz2,hw1,hb1,hin,htn,hb3⟩:=UX (c:=c) hi hm (by omega)
 have hsz:(Tryz.prog.info? 30).map (·.size) = some 1:=by kernel_rfl
 have hov:∀ lb cb,(callFunc 254 #[.slice (some ⟨vb,0,none⟩) m vc,.slice (some ⟨b,i + m,none⟩) lb cb]).run Tryz.prog w = .ok (.value (.bool false)) w:=fun lb cb=>fW w hvb hsa hsb hkB (hfa 0) (hfa kA)
 have hdl:(cs.drop i).length = n - i:=by rw [List.length_drop,hcl]
 have mixed:Tryz.prog.follows .mixedOrders = true:=by kernel_rfl
 have hb2:¬ (c = i + m):=by omega
 have hb4:¬ (c = i):=by omega
 have hcp1:∀ ty dc sc,(Builtin.copy_ #[29,29] ty #[.slice (some ⟨b,i + m,none⟩) (n + m - (i + m)) dc,.slice (some ⟨b,i,none⟩) (n + m - i) sc]).run Tryz.prog w.drew = .ok (goInt (cs.drop i).length) (w.drew.setCells b (i + m) (cs.drop i)):=fun ty dc sc =>
  run_copy_cells w.drew _ _ ty 30 b (i + m) (n + m - (i + m)) dc ⟨b,i,none⟩ (n + m - i) sc (cs.drop i) NY hsz (by rw [hdl]; simp only [Nat.min_def]; split <;> omega)
   (fun j v hj=>by rw [Addr.add_lit]; exact hcs (i + j) v (by rwa [List.getElem?_drop] at hj))
   (fun j hj=>hsp _ (by omega)) (fun j hj=>hfz _) (fun v hv=>h1c v (List.mem_of_mem_drop hv))
 obtain ⟨W1,hW1⟩:∃ W1,W1 = w.drew.setCells b (i + m) (cs.drop i):=⟨_,rfl⟩
 have hsp1:∀ k,k < n + m→(W1.cell? ⟨b,k,none⟩).isSome = true:=fun k hk=>by
  rw [hW1]
  exact isSome_setCells b _ _ _ (fun j hj=>by exact hsp _ (by omega)) _ (hsp k hk)
 have hcp2:∀ (W:World),(∀ x,W.cell? x = W1.cell? x)→(∀ x,W.frozen? x = W1.frozen? x)→∀ ty dc,(Builtin.copy_ #[29,29] ty #[.slice (some ⟨b,i,none⟩) (n + m - i) dc,.slice (some ⟨vb,0,none⟩) m vc]).run Tryz.prog W = .ok (goInt vs.length) (W.setCells b i vs):=fun W hWc hWf ty dc =>
  run_copy_cells W _ _ ty 30 b i (n + m - i) dc ⟨vb,0,none⟩ m vc vs NY hsz (by rw [hvl]; simp only [Nat.min_def]; split <;> omega)
   (fun j v hj=>by
    rw [Addr.add_lit,Nat.zero_add,hWc,hW1,World.cell?_setCells_out b _ _ _ _ (fun h _=>absurd h hvb)]
    exact hvs j v hj)
   (fun j hj=>by rw [hWc]; exact hsp1 _ (by omega)) (fun j hj=>by rw [hWf,hW1,World.frozen?_setCells]; exact hfz _) h1v
 rw [← hW1] at hcp1
 go_enter Tryz.func200,Tryz.ntmps200
 go_wp2_with (simp only [hov])
 go_region_law_o (refine step_copy_runI rfl _ _ 29 29 rfl _ _ (by simp [Act.eval,Act.put]) (by simp [Act.eval,Act.put]) (hcp1 _ _ _) ?_)
 go_wp2_with (at_builtin; refine wpList_copy_runI _ rfl _ _ 29 29 rfl _ _ rfl rfl (hcp2 _ (fun _=>rfl) (fun _=>rfl) _ _) ?_)
 go_ret
 first | exact ⟨rfl,rfl⟩ | exact ⟨rfl,by rw [hW1]⟩
theorem bn (b n c i vb m vc:Nat) (cs vs:List Value) (w:World) (hi:i < n) (hm:0 < m) (hnc:n≤c) (hroom:c < n + m) (hbig:(n + m) * 24≤140737488355328) (hcl:cs.length = n) (hvl:vs.length = m)
 (hcs:∀ j v,cs[j]? = some v→w.cell? ⟨b,j,none⟩ = some v) (hvs:∀ j v,vs[j]? = some v→w.cell? ⟨vb,j,none⟩ = some v) (h1c:∀ v∈cs,v.oneCell' = true) (h1v:∀ v∈vs,v.oneCell' = true) :
 Calls Tryz.prog 200 #[.slice (some ⟨b,0,none⟩) n c,.int .i64 i,.slice (some ⟨vb,0,none⟩) m vc] w fun e w' =>
  e = .returned (.slice (some ⟨w.heap.size,0,none⟩) (n + m) (grownCap w (n + m) c 30)) ∧
  w' = (((w.alloc (.cells ((cs.take i).toArray++Builtin.zeroCells (Value.slice none 0 0).cells (n + m - i)++Builtin.zeroCells (Value.slice none 0 0).cells (grownCap w (n + m) c 30 - (n + m))) 30)).drew.setCells w.heap.size i vs).drew).setCells w.heap.size (i + m) (cs.drop i):=by
 obtain ⟨i0,hi0,hz0,hzs,hzb⟩:=info_parts c5
 obtain ⟨hz1,hz2,hw1,hb1,hin,htn,_⟩:=UX (c:=c) hi hm (by omega)
 have hz3:(c:Int) < (n:Int) + (m:Int):=by omega
 have mixed:Tryz.prog.follows .mixedOrders = true:=by kernel_rfl
 have hsz:(Tryz.prog.info? 30).map (·.size) = some 1:=by rw [hi0]; simp [hzs]
 have hbw:b < w.heap.size:=block_lt_of_cell (hcs 0 _ (List.getElem?_eq_getElem (by omega)))
 have hvw:vb < w.heap.size:=block_lt_of_cell (hvs 0 _ (List.getElem?_eq_getElem (by omega)))
 have hkk:(n:Int) + (m:Int) - (i:Int) = ((n + m - i:Nat):Int):=by omega
 have hik:i + (n + m - i) = n + m:=by omega
 have hold:(Builtin.firstCells i0.size i (.slice (some ⟨b,0,none⟩) i c)).run Tryz.prog w.drew = .ok (cs.take i).toArray w.drew:=by
  rw [hzs]
  exact run_firstCells_some w.drew 1 i ⟨b,0,none⟩ i c (cs.take i) (by rw [List.length_take]; omega) (fun j v hj=>by
   rw [Addr.add_lit,Nat.zero_add]
   rw [List.getElem?_take] at hj
   split at hj
   ·exact hcs j v hj
   ·cases hj)
 have hrz:∀ ty,(Builtin.append_ #[29,3] ty #[.slice (some ⟨b,0,none⟩) i c,.int .i64 ((n:Int) + (m:Int) - (i:Int))]).run Tryz.prog w =
  .ok (.slice (some ⟨w.heap.size,0,none⟩) (n + m) (grownCap w (n + m) c 30)) (w.drew.alloc (.cells ((cs.take i).toArray++Builtin.zeroCells (Value.slice none 0 0).cells (n + m - i)++Builtin.zeroCells (Value.slice none 0 0).cells (grownCap w (n + m) c 30 - (n + m))) 30)):=fun ty=>by
  have h:=Lib.run_append_grow_zeros w 29 3 ty 30 i0 _ .i64 .i64 NY (by kernel_rfl) hi0 hz0 (some ⟨b,0,none⟩) i c (cs.take i) hold (n + m - i) (by omega) (by omega) (by omega) (by omega) (by rw [hzb]; omega) (by rw [hzb,hik]; exact growslice_fits hroom hbig)
  rw [hik] at h
  rw [hkk]
  exact h
 obtain ⟨G,hG⟩:∃ G,G = grownCap w (n + m) c 30:=⟨_,rfl⟩
 obtain ⟨ROW,hROW⟩:∃ ROW:Array Value,ROW = (cs.take i).toArray++Builtin.zeroCells (Value.slice none 0 0).cells (n + m - i)++Builtin.zeroCells (Value.slice none 0 0).cells (G - (n + m)):=⟨_,rfl⟩
 rw [← hG] at hrz ⊢
 rw [← hROW] at hrz ⊢
 have hRl:n + m≤ROW.size:=by
  rw [hROW]
  simp [Builtin.zeroCells,Value.cells]
  omega
 obtain ⟨W1,hW1⟩:∃ W1,W1 = w.drew.alloc (.cells ROW 30):=⟨_,rfl⟩
 rw [← hW1] at hrz
 have hN:∀ j,j < n + m→(W1.cell? ⟨w.heap.size,j,none⟩).isSome = true:=fun j hj=>by
  rw [hW1,World.cell?_alloc_at (w:=w.drew) ROW _ w.heap.size j rfl,Array.getElem?_eq_getElem (by omega)]; rfl
 have hNf:∀ j,W1.frozen? ⟨w.heap.size,j,none⟩ = false:=fun j=>by rw [hW1]; exact World.frozen?_alloc_at (w:=w.drew) ROW _ w.heap.size j rfl
 have hOb:∀ j v,w.cell? ⟨b,j,none⟩ = some v→W1.cell? ⟨b,j,none⟩ = some v:=fun j v h=>by rw [hW1,World.cell?_alloc_past (w:=w.drew) _ b j hbw]; exact h
 have hOv:∀ j v,w.cell? ⟨vb,j,none⟩ = some v→W1.cell? ⟨vb,j,none⟩ = some v:=fun j v h=>by rw [hW1,World.cell?_alloc_past (w:=w.drew) _ vb j hvw]; exact h
 have hcpA:∀ (W:World),(∀ x,W.cell? x = W1.cell? x)→(∀ x,W.frozen? x = W1.frozen? x)→∀ ty dc,(Builtin.copy_ #[29,29] ty #[.slice (some ⟨w.heap.size,i,none⟩) (n + m - i) dc,.slice (some ⟨vb,0,none⟩) m vc]).run Tryz.prog W = .ok (goInt vs.length) (W.setCells w.heap.size i vs):=fun W hWc hWf ty dc =>
  run_copy_cells W _ _ ty 30 w.heap.size i (n + m - i) dc ⟨vb,0,none⟩ m vc vs NY hsz (by rw [hvl]; simp only [Nat.min_def]; split <;> omega)
   (fun j v hj=>by rw [Addr.add_lit,Nat.zero_add,hWc]; exact hOv _ v (hvs j v hj))
   (fun j hj=>by rw [hWc]; exact hN _ (by omega)) (fun j hj=>by rw [hWf]; exact hNf _) h1v
 have hGn:n + m≤G:=by rw [hG]; exact grownCap_ge w _ _ _
 have hG63:G≤9223372036854775807:=by
  have:=grownCap_le_maxLen w (n + m) c 30 (by unfold maxLen; omega)
  rw [← hG] at this
  unfold maxLen at this
  omega
 have hGi:¬ (G = i):=by omega
 have hGim:¬ (G = i + m):=by omega
 have hci:¬ (c = i):=by omega
 have hbN:b≠w.heap.size:=by omega
 have hdl:(cs.drop i).length = n - i:=by rw [List.length_drop,hcl]
 have hcpB:∀ (W:World),(∀ x,W.cell? x = (W1.setCells w.heap.size i vs).cell? x)→(∀ x,W.frozen? x = (W1.setCells w.heap.size i vs).frozen? x)→∀ ty dc sc,(Builtin.copy_ #[29,29] ty #[.slice (some ⟨w.heap.size,i + m,none⟩) (n + m - (i + m)) dc,.slice (some ⟨b,i,none⟩) (n - i) sc]).run Tryz.prog W = .ok (goInt (cs.drop i).length) (W.setCells w.heap.size (i + m) (cs.drop i)):=fun W hWc hWf ty dc sc =>
  run_copy_cells W _ _ ty 30 w.heap.size (i + m) (n + m - (i + m)) dc ⟨b,i,none⟩ (n - i) sc (cs.drop i) NY hsz (by rw [hdl]; simp only [Nat.min_def]; split <;> omega)
   (fun j v hj=>by
    rw [Addr.add_lit,hWc,World.cell?_setCells_out _ _ _ _ _ (fun h _=>absurd h hbN)]
    exact hOb _ v (hcs (i + j) v (by rwa [List.getElem?_drop] at hj)))
   (fun j hj=>by rw [hWc]; exact isSome_setCells _ _ _ _ (fun t ht=>hN _ (by omega)) _ (hN _ (by omega)))
   (fun j hj=>by rw [hWf,World.frozen?_setCells]; exact hNf _) (fun v hv=>h1c v (List.mem_of_mem_drop hv))
 subst hW1
 have hE1:∀ x,((w.alloc (.cells ROW 30)).drew).cell? x = (w.drew.alloc (.cells ROW 30)).cell? x:=fun x=>rfl
 have hE2:∀ x,((w.alloc (.cells ROW 30)).drew).frozen? x = (w.drew.alloc (.cells ROW 30)).frozen? x:=fun x=>rfl
 have hF1:∀ x,(((w.alloc (.cells ROW 30)).drew.setCells w.heap.size i vs).drew).cell? x = ((w.drew.alloc (.cells ROW 30)).setCells w.heap.size i vs).cell? x:=fun x=>rfl
 have hF2:∀ x,(((w.alloc (.cells ROW 30)).drew.setCells w.heap.size i vs).drew).frozen? x = ((w.drew.alloc (.cells ROW 30)).setCells w.heap.size i vs).frozen? x:=fun x=>rfl
 have hb3:(i:Int)≤(n:Int):=by omega
 clear hkk hik hold hROW hG hRl
 go_enter Tryz.func200,Tryz.ntmps200
 go_wp2_with (first
  | (at_builtin; refine Lib.wpList_append_run _ rfl _ _ _ _ rfl _ _ rfl rfl _ _ (hrz _) ?_)
  | (at_builtin; refine wpList_copy_runI _ rfl _ _ 29 29 rfl _ _ rfl rfl (hcpA _ hE1 hE2 _ _) ?_)
  | (at_builtin; refine wpList_copy_runI _ rfl _ _ 29 29 rfl _ _ rfl rfl (hcpB _ (fun _=>rfl) (fun _=>rfl) _ _ _) ?_))
 go_region_law_o (refine step_copy_runI rfl _ _ 29 29 rfl (.slice (some ⟨w.heap.size,i + m,none⟩) (n + m - (i + m)) (G - (i + m))) (.slice (some ⟨b,i,none⟩) (n - i) (c - i)) (by simp [Act.eval,Act.put]) (by simp [Act.eval,Act.put]) (hcpB _ hF1 hF2 3 (G - (i + m)) (c - i)) ?_)
 go_wp2
 go_ret
 exact ⟨rfl,rfl⟩
theorem Tf {x:Value} {p:Value→Nat→Prop} (h:p x 0):∀ (j:Nat) (v:Value),[x][j]? = some v→p v j:=fun j v hj=>by
 match j,hj with
 | 0,hj=>simp at hj; subst hj; exact h
 | j + 1,hj=>simp at hj
theorem eQ:Uu Tryz.prog 200 30 (.slice none 0 0) where
 room:=fun b n c vb vc x w h1 h2 h3 h4 h5 h6 h7=>c6 b n c vb vc x w h1 h2 h4 h5 h6 h7
 new_:=fun base n c vb vc cs x w h1 h2 h3 h4 h5 h6 h7 h8 h9=>c7 base n c vb vc cs x w h1 h2 (by omega) h5 h6 h7 h8 h9
 shift:=fun b n c i vb vc cs x w h1 h2 h3 h4 h5 h6 h7 h8 h9 h10 h11 h12 tA tB kA kB k1 k2 k3 k4=>ZH b n c i vb 1 vc cs [x] w h1 (by omega) h2 h3 h5 h6 rfl h7 h8 h9 (Tf (p:=fun v j=>w.cell? ⟨vb,j,none⟩ = some v) h10) h11 (by simpa using h12) k1 k2 k3 k4
 grow:=fun b n c i vb vc cs x w h1 h2 h3 h4 h5 h6 h7 h8 h9 h10=>bn b n c i vb 1 vc cs [x] w h1 (by omega) h2 h3 (by omega) h6 rfl h7 (Tf (p:=fun v j=>w.cell? ⟨vb,j,none⟩ = some v) h8) h9 (by simpa using h10)
theorem eP:Uu Tryz.prog 141 3 (.int .i64 0) where
 room:=fun b n c vb vc x w h1 h2 h3 h4 h5 h6 h7=>by
  have:=Any2.slices_Insert_int_end_room Tryz.lays21 b 0 n c vb 0 1 vc [x] w (by omega) h1 h2 rfl (fun j hj=>by simp at hj; subst hj; simpa using h4) (fun j hj=>by simp at hj; subst hj; simpa using h5) (Tf (p:=fun v j=>w.cell? ⟨vb,0 + j,none⟩ = some v) h6) (by simpa using h7)
  simp only [Nat.zero_add] at this
  exact this
 new_:=fun base n c vb vc cs x w h1 h2 h3 h4 h5 h6 h7 h8 h9 =>
  Any2.slices_Insert_int_end_grow Tryz.lays21 base n c vb 0 1 vc cs [x] w (by omega) h1 h2 (by omega) h5 rfl h6 h7 (Tf (p:=fun v j=>w.cell? ⟨vb,0 + j,none⟩ = some v) h8) (by simpa using h9)
 shift:=fun b n c i vb vc cs x w h1 h2 h3 h4 h5 h6 h7 h8 h9 h10 h11 h12 tA tB kA kB k1 k2 k3 k4=>by
  have:=Any2.slices_Insert_int_shift Tryz.lays21 b 0 n c i vb 0 1 vc cs [x] w h1 (by omega) h2 h3 h5 h6 rfl (fun j v hj=>by rw [Nat.zero_add]; exact h7 j v hj) (fun j hj=>by rw [Nat.zero_add]; exact h8 j hj) (fun j hj=>h9 _) (Tf (p:=fun v j=>w.cell? ⟨vb,0 + j,none⟩ = some v) h10) h11 (by simpa using h12) tA tB kA kB k1 k2 k3 (k4 0) (k4 kA)
  simp only [Nat.zero_add] at this
  exact this
 grow:=fun b n c i vb vc cs x w h1 h2 h3 h4 h5 h6 h7 h8 h9 h10 =>
  Any2.slices_Insert_int_grow Tryz.lays21 b 0 n c i vb 0 1 vc cs [x] w h1 (by omega) h2 h3 (by omega) h6 rfl (fun j v hj=>by rw [Nat.zero_add]; exact h7 j v hj) (Tf (p:=fun v j=>w.cell? ⟨vb,0 + j,none⟩ = some v) h8) h9 (by simpa using h10)
theorem eh {vs:Array Value} (h:vs.size = 3):∃ v v1 v2,vs = #[v,v1,v2]:=by
 obtain ⟨l⟩:=vs
 match l,h with
 | [v,v1,v2],_=>exact ⟨v,v1,v2,rfl⟩
theorem Sg {α:Type} {p0 p2 R:List α} {p1:Int} (h:(bif decide (0≤p1∧p1.toNat≤p0.length∧p2.length = 1∧p0.length≤1000000) then some (p0.take p1.toNat++p2++p0.drop p1.toNat) else none) = some R) :
 ∃ (i:Nat) (x:α),p1 = i∧p2 = [x]∧i≤p0.length∧p0.length≤1000000∧R = p0.take i++[x]++p0.drop i:=by
 obtain ⟨hr,hF⟩:=dw h
 obtain rfl:=Option.some.inj hF
 obtain ⟨h0,h1,h2,h3⟩:=of_decide_eq_true hr
 match p2,h2 with
 | [x],_=>exact ⟨p1.toNat,x,by omega,rfl,h1,h3,rfl⟩
theorem LP (p0:List (List Int)) (p1:Int) (p2:List (List Int)) (R:List (List Int)) (hF:Dg p0 p1 p2 = some R):Ck Tryz.prog 200 [.own 1 30 (p0.map (Aj 1 (D.int .i64))),.d (.int .i64 p1),.own 1 30 (p2.map (Aj 1 (D.int .i64)))] [.any,.any,.any] (.cc none [.own 1 30 (R.map (Aj 1 (D.int .i64)))]):=by
 show Ck Tryz.prog 200 [.own 1 30 (p0.map FA),.d (.int .i64 p1),.own 1 30 (p2.map FA)] [.any,.any,.any] (.cc none [.own 1 30 (R.map FA)])
 obtain ⟨i,x,rfl,rfl,h1,h2,rfl⟩:=Sg hF
 refine ⟨by kernel_rfl,rfl,fun O w vs hO hG hlen hMO hinj hargs=>?_⟩
 obtain ⟨v,v1,u,rfl⟩:=eh hlen
 obtain ⟨_,_,vals,hrow,hL⟩:=hargs 0 v _ rfl rfl
 have hv1:=BR (hargs 1 v1 _ rfl rfl)
 subst hv1
 obtain ⟨_,_,valu,hrowu,hLu⟩:=hargs 2 u _ rfl rfl
 rw [KS] at hL hLu
 rw [List.length_map] at hrow hrowu
 obtain ⟨y,rfl⟩:∃ y,valu = [y]:=by
  have:=hLu.1
  match valu,this with
  | [y],_=>exact ⟨y,rfl⟩
 have hM:∀ b,A1 v = some b→DV #[v,.int .i64 i,u] [.own 1 30 (p0.map FA),.d (.int .i64 i),.own 1 30 ([x].map FA)] b:=fun b hb=>⟨0,v,_,rfl,rfl,rfl,hb⟩
 refine (Y8 eQ h1 h2 hrow hrowu hL.oneCell (hLu.oneCell y (by simp)) hM fun b hb hb2=>?_).mono fun e' w' ⟨r,he,hB,hbl,hrr⟩=>?_
 ·have:=hinj 0 2 v u _ _ b rfl rfl rfl rfl rfl rfl hb hb2
  omega
 ·subst he
  have hk:=PY hbl hB hL
  have hku:=PY hbl hB hLu
  refine Y2 (by simp) hbl hB QR (by rw [show ((p0.take i++[x]++p0.drop i).map FA).length = p0.length + 1 by simp; omega]; exact hrr) ?_
  rw [KS,List.map_append,List.map_append,List.map_take,List.map_drop]
  exact ((hk.take i).append hku).append (hk.drop i)
theorem MN (p0:List Int) (p1:Int) (p2:List Int) (R:List Int) (hF:Dv p0 p1 p2 = some R):Ck Tryz.prog 141 [.own 1 3 (p0.map (D.int .i64)),.d (.int .i64 p1),.own 1 3 (p2.map (D.int .i64))] [.any,.any,.any] (.own 1 3 (R.map (D.int .i64))):=by
 obtain ⟨i,x,rfl,rfl,h1,h2,rfl⟩:=Sg hF
 refine ⟨by kernel_rfl,rfl,fun O w vs hO hG hlen hMO hinj hargs=>?_⟩
 obtain ⟨v,v1,u,rfl⟩:=eh hlen
 obtain ⟨_,_,vals,hrow,hL⟩:=hargs 0 v _ rfl rfl
 have hv1:=BR (hargs 1 v1 _ rfl rfl)
 subst hv1
 obtain ⟨_,_,valu,hrowu,hLu⟩:=hargs 2 u _ rfl rfl
 rw [KR] at hL hLu
 obtain rfl:=Qc hL
 obtain rfl:=Qc hLu
 rw [List.length_map] at hrow hrowu
 have hM:∀ b,A1 v = some b→DV #[v,.int .i64 i,u] [.own 1 3 (p0.map (D.int .i64)),.d (.int .i64 i),.own 1 3 ([x].map (D.int .i64))] b:=fun b hb=>⟨0,v,_,rfl,rfl,rfl,hb⟩
 refine (Y8 eP (x:=.int .i64 x) h1 h2 hrow hrowu hL.oneCell rfl hM fun b hb hb2=>?_).mono fun e' w' ⟨r,he,hB,hbl,hrr⟩=>?_
 ·have:=hinj 0 2 v u _ _ b rfl rfl rfl rfl rfl rfl hb hb2
  omega
 ·subst he
  refine bh (by simp) hbl hB ?_
  rw [show (p0.take i++[x]++p0.drop i).length = p0.length + 1 by simp; omega,List.map_append,List.map_append,List.map_take,List.map_drop]
  exact hrr
theorem G0 (p0:List (List Int)) (p1 p2:Int) (R:List (List Int)) (hF:Cn p0 p1 p2 = some R):Ck Tryz.prog 142 [.own 1 30 (p0.map (Aj 1 (D.int .i64))),.d (.int .i64 p1),.d (.int .i64 p2)] [.any,.any,.any] (.cc none [.own 1 30 (R.map (Aj 1 (D.int .i64)))]):=by
 show Ck Tryz.prog 142 [.own 1 30 (p0.map FA),.d (.int .i64 p1),.d (.int .i64 p2)] [.any,.any,.any] (.cc none [.own 1 30 (R.map FA)])
 obtain ⟨hr,hF⟩:=dw hF
 obtain rfl:=Option.some.inj hF
 obtain ⟨h0,h1,h2⟩:=of_decide_eq_true hr
 obtain ⟨i,rfl⟩:∃ i:Nat,p1 = i:=⟨p1.toNat,by omega⟩
 obtain ⟨j,rfl⟩:∃ j:Nat,p2 = j:=⟨p2.toNat,by omega⟩
 rw [Int.toNat_natCast] at h2
 rw [Int.toNat_natCast,Int.toNat_natCast]
 refine ⟨by kernel_rfl,rfl,fun O w vs hO hG hlen hMO hinj hargs=>?_⟩
 obtain ⟨v,v1,v2,rfl⟩:∃ v v1 v2,vs = #[v,v1,v2]:=by
  obtain ⟨l⟩:=vs
  match l,hlen with
  | [v,v1,v2],_=>exact ⟨v,v1,v2,rfl⟩
 obtain ⟨_,_,vals,hrow,hL⟩:=hargs 0 v _ rfl rfl
 have hv1:=BR (hargs 1 v1 _ rfl rfl)
 have hv2:=BR (hargs 2 v2 _ rfl rfl)
 subst hv1; subst hv2
 rw [KS] at hL
 rw [List.length_map] at hrow
 rcases PX hrow with ⟨hn,_⟩ | ⟨g,cap,cur,rfl,hc,hb,k1,k2,k3,k4,k5⟩
 ·omega
 obtain ⟨l,hl⟩:=fu hL.oneCell
 have hll:l.length = p0.length:=by rw [← k5,← hl,List.length_map]
 have hH:Holds Subtype.val w g 0 l.toArray:=cz hb (by rw [hll,k4,hl])
 obtain ⟨i0,hi0,hz⟩:∃ i0,Tryz.prog.info? 30 = some i0∧i0.size = 1:=by
  have:(Tryz.prog.info? 30).map (·.size) = some 1:=by kernel_rfl
  cases h:Tryz.prog.info? 30 with
  | none=>rw [h] at this; cases this
  | some i=>rw [h] at this; exact ⟨i,rfl,Option.some.inj this⟩
 have hcall:=AnyE.slices_Delete Tryz.laysDelete (Subtype.val:em→Value) (fun x=>x.2) ⟨.slice none 0 0,rfl⟩ (fun w=>Tryz.zeroValue30 w) i0 hi0 hz g 0 cap i j l.toArray w hH (by simp; omega) (by unfold maxLen at k2; omega) (by omega) (by simp; omega)
 have e1:l.toArray.size = p0.length:=by simp [hll]
 rw [e1] at hcall
 refine hcall.mono fun e' w' ⟨he,q,hw⟩=>?_
 subst he
 have hM:DV #[.slice (some ⟨g,0,none⟩) p0.length cap,.int .i64 i,.int .i64 j] [.own 1 30 (p0.map FA),.d (.int .i64 i),.d (.int .i64 j)] g:=⟨0,_,_,rfl,rfl,rfl,J3 hc⟩
 have hgr:w' = grow (putRow Subtype.val (Sort.ahead w q) g 0 (l.take i++l.drop j++List.replicate (j - i) (⟨.slice none 0 0,rfl⟩:em)).toArray) #[]:=by rw [Y6]; exact hw
 have hB:AT w.heap.size (DV #[.slice (some ⟨g,0,none⟩) p0.length cap,.int .i64 i,.int .i64 j] [.own 1 30 (p0.map FA),.d (.int .i64 i),.d (.int .i64 j)]) w w':=by rw [hgr]; exact Zs _ hM
 have hbl:∀ b,A1 (.slice (some ⟨g,0,none⟩) (p0.length - (j - i)) cap) = some b→w.heap.size≤b∨DV #[.slice (some ⟨g,0,none⟩) p0.length cap,.int .i64 i,.int .i64 j] [.own 1 30 (p0.map FA),.d (.int .i64 i),.d (.int .i64 j)] b:=fun b hb2=>by
  rw [J3 hc] at hb2
  cases hb2
  exact .inr hM
 have hk:=PY hbl hB hL
 have hlen2:((p0.take i++p0.drop j).map FA).length = p0.length - (j - i):=by simp; omega
 have hvals:(vals.take i++vals.drop j).length = p0.length - (j - i):=by simp; omega
 refine Y2 (vals:=vals.take i++vals.drop j) (by simp) hbl hB QR ?_ ?_
 ·rw [hlen2]
  refine Tm (cur:=putCells Subtype.val 0 (l.take i++l.drop j++List.replicate (j - i) (⟨.slice none 0 0,rfl⟩:em)).toArray cur) (by rw [hgr]; exact dT _ hb) (by omega) k2 (by simp [putCells,k3]) ?_ hvals
  have ht:=eg (enc:=Subtype.val) cur (l.take i++l.drop j++List.replicate (j - i) (⟨.slice none 0 0,rfl⟩:em)) (by simp; omega)
  have hle:p0.length - (j - i)≤(l.take i++l.drop j++List.replicate (j - i) (⟨.slice none 0 0,rfl⟩:em)).length:=by simp; omega
  have e2:=congrArg (List.take (p0.length - (j - i))) ht
  rw [List.take_take,Nat.min_eq_left hle] at e2
  rw [e2,List.map_append,List.map_append,List.map_take,List.map_drop,hl,List.take_append_of_le_length (by rw [hvals]; exact Nat.le_refl _),← hvals,List.take_length]
 ·rw [KS,List.map_append,List.map_take,List.map_drop]
  exact (hk.take i).append (hk.drop j)
end Go.Proofs.YtlpkhgkoihlghaaGreatDoor.P
