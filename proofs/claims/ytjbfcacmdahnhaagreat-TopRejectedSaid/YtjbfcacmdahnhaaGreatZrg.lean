import Derived.Test.YtjbfcacmdahnhaaGreatZrf
set_option linter.unusedVariables false
set_option linter.unusedSimpArgs false
set_option linter.unusedSectionVars false
set_option maxRecDepth 100000
set_option maxHeartbeats 8000000
namespace Go.Proofs.YtjbfcacmdahnhaaGreat
section
def zk5:ZK:=⟨[0,1,2,4,5,6,7,8,10,11,12,16,33,34,35,36,37,53],[⟨11,[6,8],[],[(6,[7])],[0,1,2,3,4,5,7,6,8,9,10]⟩],[]⟩
def zk8:ZK:=⟨[0,1,2,4,37],[],[]⟩
def zk9:ZK:=⟨[0,1,2,3,4,5],[],[]⟩
def zk10:ZK:=⟨[0,1,2,3,4,6],[],[]⟩
def zk12:ZK:=⟨[0,1,2,3,4,5],[],[]⟩
def zk13:ZK:=⟨[0,2,3,5],[⟨4,[4,9,15,27,32,37,42,47,52,57,62,67,69],[],[(4,[5,6,7,8,10,11,12,13,14,16,17,18,19,20,21,22,23,24,25,26,28,29,30,31,33,34,35,36,38,39,40,41,43,44,45,46,48,49,50,51,53,54,55,56,58,59,60,61,63,64,65,66]),(9,[10,11,12,13,14,16,17,18,19,20,21,22,23,24,25,26,28,29,30,31,33,34,35,36,38,39,40,41,43,44,45,46,48,49,50,51,53,54,55,56,58,59,60,61,63,64,65,66]),(15,[16,17,18,19,20,21,22,23,24,25,26,28,29,30,31,33,34,35,36,38,39,40,41,43,44,45,46,48,49,50,51,53,54,55,56,58,59,60,61,63,64,65,66]),(27,[16,17,18,19,20,21,28,29,30,31,33,34,35,36,38,39,40,41,43,44,45,46,48,49,50,51,53,54,55,56,58,59,60,61,63,64,65,66]),(32,[16,17,18,19,20,21,33,34,35,36,38,39,40,41,43,44,45,46,48,49,50,51,53,54,55,56,58,59,60,61,63,64,65,66]),(37,[16,17,18,19,20,21,38,39,40,41,43,44,45,46,48,49,50,51,53,54,55,56,58,59,60,61,63,64,65,66]),(42,[16,17,18,19,20,21,43,44,45,46,48,49,50,51,53,54,55,56,58,59,60,61,63,64,65,66]),(47,[16,17,18,19,20,21,48,49,50,51,53,54,55,56,58,59,60,61,63,64,65,66]),(52,[16,17,18,19,20,21,53,54,55,56,58,59,60,61,63,64,65,66]),(57,[16,17,18,19,20,21,58,59,60,61,63,64,65,66]),(62,[16,17,18,19,20,21,63,64,65,66]),(67,[16,17,18,19,20,21])],[0,1,2,3,5,6,7,8,10,11,12,13,14,16,17,18,19,20,21,22,23,24,25,26,28,29,30,31,33,34,35,36,38,39,40,41,43,44,45,46,48,49,50,51,53,54,55,56,58,59,60,61,63,64,65,66,4,9,15,27,32,37,42,47,52,57,62,67,68,69]⟩],[]⟩
def zk20:ZK:=⟨[0,1,2,3,4,5,6,71,76,89,94,107],[⟨6,[],[],[],[0,1,2,3,4,5,6,7,8,9,10]⟩,⟨11,[],[],[],[0,1,2,3,4,5,6,7,8,9,10]⟩],[]⟩
def zk21:ZK:=⟨[0,1,2],[],[]⟩
def zk22:ZK:=⟨[0,1,4,5,6,10],[],[]⟩
def zk23:ZK:=⟨[0,1,2,4,5,84,132,158],[⟨1,[6],[],[],[0,1,2,3,4,5,6,7]⟩,⟨2,[23,69],[],[(69,[63,64])],[0,1,2,3,4,5,6,7,8,9,10,11,12,13,14,15,16,17,18,19,20,21,22,23,24,25,26,27,28,29,30,31,32,33,34,35,36,37,38,39,40,41,42,43,44,45,46,47,48,49,50,51,52,53,54,55,56,57,58,59,60,61,62,63,64,65,66,67,68,69,70,71]⟩,⟨4,[6,18,31,41],[],[],[0,1,2,3,4,5,6,7,8,9,10,11,12,13,14,15,16,17,18,19,20,21,22,23,24,25,26,27,28,29,30,31,32,33,34,35,36,37,38,39,40,41,42,43,44,45,46,47]⟩,⟨6,[23],[],[(23,[20,21])],[0,1,2,3,4,5,6,7,8,9,10,11,12,13,14,15,16,17,18,19,20,21,22,23,24,25]⟩],[]⟩
def zk24:ZK:=⟨[0,1,2,3,6],[⟨3,[2,7,10,13,14,15,18,21,24,27,29],[],[(2,[4,5,6,8,9,11,12,16,17,19,20,22,23,25,26]),(7,[4,8,9,11,12,16,17,19,20,22,23,25,26,3]),(10,[4,11,12,16,17,19,20,22,23,25,26,3]),(13,[4,16,17,19,20,22,23,25,26,3]),(14,[4,16,17,19,20,22,23,25,26,3]),(15,[4,16,17,19,20,22,23,25,26,3]),(18,[4,19,20,22,23,25,26,3]),(21,[4,22,23,25,26,3]),(24,[4,25,26,3]),(27,[4,3])],[0,1,4,5,6,8,9,11,12,16,17,19,20,22,23,25,26,2,3,7,10,13,14,15,18,21,24,27,28,29,30,31]⟩],[]⟩
def zk26:ZK:=⟨[0,1,3,4,5,6,7,9,14,38,44],[⟨11,[7,12,13,14],[],[(7,[0,1,2,8,9,10,11]),(12,[0,1,2])],[0,1,2,3,4,5,6,8,9,10,11,7,12,13,14]⟩,⟨12,[9,14,15,16],[],[(9,[0,1,2,3,4,10,11,12,13]),(14,[0,1,2,3,4])],[0,1,2,3,4,5,6,7,8,10,11,12,13,9,14,15,16]⟩],[]⟩
def zk27:ZK:=⟨[0,1,3,4,6,7,12,17,22,27,33],[],[]⟩
def zk34:ZK:=⟨[0,1,2,3,5,11],[],[]⟩
def zk35:ZK:=⟨[0],[],[]⟩
def zk36:ZK:=⟨[0,2,3,4,6,7,8,9,10,11,12,21],[],[]⟩
def zk37:ZK:=⟨[0,2],[],[]⟩
def zk38:ZK:=⟨[0,1,2,4,5,6,7,8],[⟨2,[2,4,9],[8],[(2,[0,3]),(9,[7])],[0,1,3,2,4,5,6,7,8,9,10]⟩],[]⟩
def zk39:ZK:=⟨[0],[],[]⟩
def zk40:ZK:=⟨[0,1,2,4,5,7,8,10,11,13,23,30,31,32,33,52,74,75,76,77,89,90,92,94,113],[⟨8,[5],[],[],[0,1,2,3,4,5,6]⟩,⟨12,[6,7,10],[],[(6,[0,1,2,3,4]),(7,[0])],[0,1,2,3,4,5,6,7,8,9,10]⟩,⟨17,[6],[],[],[0,1,2,3,4,5,6]⟩,⟨23,[6],[],[],[0,1,2,3,4,5,6]⟩,⟨24,[5],[],[],[0,1,2,3,4,5,6]⟩,⟨28,[6],[],[],[0,1,2,3,4,5,6]⟩],[]⟩
def zk41:ZK:=⟨[0,2,4],[],[]⟩
def zk42:ZK:=⟨[0,2,4],[],[]⟩
def zk43:ZK:=⟨[0,2,4],[⟨3,[3,8],[],[(3,[4,5,6,7])],[0,1,2,4,5,6,7,3,8,9]⟩],[]⟩
def zk44:ZK:=⟨[0,2,4],[],[]⟩
def zk45:ZK:=⟨[0,2,4],[],[]⟩
def zk46:ZK:=⟨[0,2,3,4,5,8,9,10],[],[]⟩
def zk47:ZK:=⟨[0,1,4],[],[]⟩
def zk48:ZK:=⟨[0,2,3,4,5,8,9,10],[],[]⟩
def zk49:ZK:=⟨[0,2,3,4,5,8,9,10],[],[]⟩
def zk50:ZK:=⟨[0,2,4],[],[]⟩
def zk51:ZK:=⟨[0,2,4],[],[]⟩
def zk52:ZK:=⟨[0,2,4],[],[]⟩
def zk54:ZK:=⟨[0,1,4,5,7,8,9,16],[],[]⟩
def zk58:ZK:=⟨[0,1,4,5,13],[],[]⟩
def zk59:ZK:=⟨[0,1,2,6,7,8,9,14,15,16,17,18,30],[],[]⟩
def zk60:ZK:=⟨[0,1,2,3,4],[],[]⟩
def zk61:ZK:=⟨[0,1,4,5,10,14,25],[⟨6,[],[],[],[0,1,2,3,4,5,6,7,8]⟩],[]⟩
def zk62:ZK:=⟨[0,2,3,4,8,16],[],[]⟩
def zk63:ZK:=⟨[0,1,4,5,10,12,13,14,24],[⟨6,[],[],[],[0,1,2,3,4,5,6,7,8]⟩],[]⟩
def zk64:ZK:=⟨[0,1,4,5,10,12,13,14,24],[⟨6,[],[],[],[0,1,2,3,4,5,6,7,8]⟩],[]⟩
def zk65:ZK:=⟨[0,2,3,4,5,12,34],[],[]⟩
def zk66:ZK:=⟨[0,1,2],[],[]⟩
def zk67:ZK:=⟨[0,2,8],[],[]⟩
def zk68:ZK:=⟨[0,2,4],[],[]⟩
def zk69:ZK:=⟨[0,2],[],[]⟩
def zk70:ZK:=⟨[0,2,8],[],[]⟩
def zk71:ZK:=⟨[0],[],[]⟩
def zk72:ZK:=⟨[0],[],[]⟩
def zk73:ZK:=⟨[0,2,3,4,10,13,14],[⟨7,[3,8],[],[(3,[0,1,4,5,6])],[0,1,2,4,5,6,3,7,8]⟩],[]⟩
def zk74:ZK:=⟨[0,2,8],[],[]⟩
def zk75:ZK:=⟨[0,2,8],[],[]⟩
def zk76:ZK:=⟨[0,2,8],[],[]⟩
def zk78:ZK:=⟨[0,1,2,3,4,8],[],[]⟩
def zk79:ZK:=⟨[0,1,3,4,5,6,7,8,13],[⟨5,[5,10,11,13],[12],[(5,[0,6,7,8,9]),(10,[0])],[0,1,2,3,4,6,7,8,9,5,10,11,12,13]⟩],[]⟩
def zk80:ZK:=⟨[0,1,3,4,5,6,8,28,42,58],[⟨1,[],[],[],[0,1,2,3,4,5,6,7,8,9,10,11,12,13,14,15,16,17,18]⟩,⟨3,[5],[],[(5,[6,7,8,9,10])],[0,1,2,3,4,6,7,8,9,10,5,11,12]⟩,⟨7,[6],[],[],[0,1,2,3,4,5,6,7]⟩,⟨10,[8],[],[],[0,1,2,3,4,5,6,7,8,9,10,11,12,13]⟩],[]⟩
def zk81:ZK:=⟨[0,1,3,4],[],[]⟩
def zk82:ZK:=⟨[0,1,3,4],[],[]⟩
def zk83:ZK:=⟨[0,1,3,4,5,6,7,8,9,22,44,57,60,78,79,88],[⟨1,[7,12],[11],[(12,[10])],[0,1,2,3,4,5,6,7,8,9,10,11,12,13]⟩,⟨4,[5,10,16],[15],[(5,[0,6,7,8,9]),(16,[13,14])],[0,1,2,3,4,6,7,8,9,5,10,11,12,13,14,15,16,17,18]⟩,⟨11,[7],[],[],[0,1,2,3,4,5,6,7]⟩,⟨15,[6],[],[],[0,1,2,3,4,5,6]⟩,⟨17,[8],[],[],[0,1,2,3,4,5,6,7,8]⟩],[]⟩
def zk84:ZK:=⟨[0,1,3,4,5,22,36],[⟨1,[5,14],[],[(5,[6,7,8,9,10,11,12,13])],[0,1,2,3,4,6,7,8,9,10,11,12,13,5,14,15]⟩,⟨4,[9,10],[],[(9,[0,1,2,3])],[0,1,2,3,4,5,6,7,8,9,10,11]⟩],[]⟩
def zk85:ZK:=⟨[0,1,3,4,5,6,21,31],[⟨2,[5,7],[],[(5,[6])],[0,1,2,3,4,6,5,7,8]⟩,⟨5,[5,6],[],[(5,[0,1,2,3])],[0,1,2,3,4,5,6,7]⟩],[]⟩
def zk86:ZK:=⟨[0,2],[],[]⟩
def zk87:ZK:=⟨[0,1,2,3,4,5,10],[],[]⟩
def zk88:ZK:=⟨[0,1,3,4,5,23,38,53,66],[⟨1,[],[],[],[0,1,2,3,4,5,6,7,8,9,10,11,12,13,14,15,16,17]⟩,⟨3,[],[],[],[0,1,2,3,4,5,6,7,8,9,10]⟩,⟨5,[],[],[],[0,1,2,3,4,5,6,7,8,9,10]⟩,⟨7,[6],[],[],[0,1,2,3,4,5,6,7]⟩,⟨12,[9,10],[],[],[0,1,2,3,4,5,6,7,8,9,10]⟩],[⟨10,[1,6,10,11,14],[],(.cons 0 [] (.cons 2 [] (.cons 3 [] (.cons 4 [] (.cons 5 [] (.cons 7 [] (.cons 8 [] (.cons 9 [] (.alt (.cons 1 [0,2,3,4,5,7,8,9] (.alt (.cons 6 [0,7,8,9] (.cons 10 [0,2,3,4,5] (.cons 11 [0] (.cons 12 [] (.cons 13 [] (.cons 14 [] .nil)))))) (.cons 10 [0,2,3,4,5] (.cons 6 [0,7,8,9] (.cons 11 [0] (.cons 12 [] (.cons 13 [] (.cons 14 [] .nil)))))))) (.cons 10 [0,2,3,4,5] (.cons 1 [0,2,3,4,5,7,8,9] (.cons 6 [0,7,8,9] (.cons 11 [0] (.cons 12 [] (.cons 13 [] (.cons 14 [] .nil))))))))))))))))⟩,⟨11,[1,6,13,14,17],[],(.cons 0 [] (.cons 2 [] (.cons 3 [] (.cons 4 [] (.cons 5 [] (.cons 7 [] (.cons 8 [] (.cons 9 [] (.cons 10 [] (.cons 11 [] (.cons 12 [] (.alt (.cons 1 [0,2,3,4,5,7,8,9,10,11,12] (.alt (.cons 6 [0,7,8,9,10,11,12] (.cons 13 [0,2,3,4,5] (.cons 14 [0] (.cons 15 [] (.cons 16 [] (.cons 17 [] .nil)))))) (.cons 13 [0,2,3,4,5] (.cons 6 [0,7,8,9,10,11,12] (.cons 14 [0] (.cons 15 [] (.cons 16 [] (.cons 17 [] .nil)))))))) (.cons 13 [0,2,3,4,5] (.cons 1 [0,2,3,4,5,7,8,9,10,11,12] (.cons 6 [0,7,8,9,10,11,12] (.cons 14 [0] (.cons 15 [] (.cons 16 [] (.cons 17 [] .nil)))))))))))))))))))⟩]⟩
def zk89:ZK:=⟨[0,1,2,4,6,7,8,9,10,23,45,63,77],[⟨1,[],[],[],[0,1,2,3,4,5,6,7,8,9,10,11,12]⟩,⟨3,[12,17],[16],[(17,[15])],[0,1,2,3,4,5,6,7,8,9,10,11,12,13,14,15,16,17,18]⟩,⟨6,[5],[],[(5,[7,8,9,10,11])],[0,1,2,3,4,7,8,9,10,11,5,6,12]⟩,⟨12,[8,11],[],[(8,[0])],[0,1,2,3,4,5,6,7,8,9,10,11]⟩,⟨13,[7],[],[],[0,1,2,3,4,5,6,7]⟩],[]⟩
def zk90:ZK:=⟨[0,1,3,4,5,6,7,8,21,70,72,97],[⟨1,[],[],[],[0,1,2,3,4,5,6,7,8,9,10,11,12]⟩,⟨3,[8,9],[],[(8,[0,1,2,3,4,5,6,7])],[0,1,2,3,4,5,6,7,8,9]⟩,⟨4,[9,15],[14],[(15,[12,13])],[0,1,2,3,4,5,6,7,8,9,10,11,12,13,14,15,16,17]⟩,⟨5,[],[],[],[0,1,2,3,4,5,6,7,8,9,10,11,12,13,14,15,16,17,18,19,20,21,22]⟩,⟨9,[8,11],[],[(8,[0])],[0,1,2,3,4,5,6,7,8,9,10,11]⟩,⟨12,[6],[],[],[0,1,2,3,4,5,6]⟩],[]⟩
def zk91:ZK:=⟨[0,1,3,4,5,6,7,26,55,57,65],[⟨2,[5],[],[],[0,1,2,3,4,5,6]⟩,⟨5,[12],[],[],[0,1,2,3,4,5,6,7,8,9,10,11,12,13]⟩],[⟨12,[1,6,12,13,16],[],(.cons 0 [] (.cons 2 [] (.cons 3 [] (.cons 4 [] (.cons 5 [] (.cons 7 [] (.cons 8 [] (.cons 9 [] (.cons 10 [] (.cons 11 [] (.alt (.cons 1 [0,2,3,4,5,7,8,9,10,11] (.alt (.cons 6 [0,7,8,9,10,11] (.cons 12 [0,2,3,4,5] (.cons 13 [0] (.cons 14 [] (.cons 15 [] (.cons 16 [] .nil)))))) (.cons 12 [0,2,3,4,5] (.cons 6 [0,7,8,9,10,11] (.cons 13 [0] (.cons 14 [] (.cons 15 [] (.cons 16 [] .nil)))))))) (.cons 12 [0,2,3,4,5] (.cons 1 [0,2,3,4,5,7,8,9,10,11] (.cons 6 [0,7,8,9,10,11] (.cons 13 [0] (.cons 14 [] (.cons 15 [] (.cons 16 [] .nil))))))))))))))))))⟩,⟨13,[1,6,8,9,12],[],(.cons 0 [] (.cons 2 [] (.cons 3 [] (.cons 4 [] (.cons 5 [] (.cons 7 [] (.alt (.cons 1 [0,2,3,4,5,7] (.alt (.cons 6 [0,7] (.cons 8 [0,2,3,4,5] (.cons 9 [0] (.cons 10 [] (.cons 11 [] (.cons 12 [] .nil)))))) (.cons 8 [0,2,3,4,5] (.cons 6 [0,7] (.cons 9 [0] (.cons 10 [] (.cons 11 [] (.cons 12 [] .nil)))))))) (.cons 8 [0,2,3,4,5] (.cons 1 [0,2,3,4,5,7] (.cons 6 [0,7] (.cons 9 [0] (.cons 10 [] (.cons 11 [] (.cons 12 [] .nil))))))))))))))⟩]⟩
def zk92:ZK:=⟨[0,2,3,4,5,6,7,8,9,11,30,104,154],[⟨3,[],[],[],[0,1,2,3,4,5,6,7,8,9,10]⟩,⟨7,[13,20,22],[],[(13,[0]),(20,[16,17]),(22,[17])],[0,1,2,3,4,5,6,7,8,9,10,11,12,13,14,15,16,17,18,19,20,21,22,23]⟩,⟨11,[6,23,32],[],[(6,[0,1,2,3,4,7,8,9,10,11,12,13,14,15,16,17,18,19,20,21,22]),(23,[0])],[0,1,2,3,4,5,7,8,9,10,11,12,13,14,15,16,17,18,19,20,21,22,6,23,24,25,26,27,28,29,30,31,32]⟩,⟨15,[14,20],[19],[(20,[17,18])],[0,1,2,3,4,5,6,7,8,9,10,11,12,13,14,15,16,17,18,19,20,21,22]⟩,⟨16,[10,13],[],[(10,[0])],[0,1,2,3,4,5,6,7,8,9,10,11,12,13]⟩,⟨17,[8,9,11],[],[(8,[0,1])],[0,1,2,3,4,5,6,7,8,9,10,11]⟩,⟨21,[10],[],[],[0,1,2,3,4,5,6,7,8,9,10]⟩],[]⟩
def zk93:ZK:=⟨[0,1,2,6],[⟨1,[11],[],[],[0,1,2,3,4,5,6,7,8,9,10,11]⟩],[]⟩
def zk98:ZK:=⟨[0,1,2,4,5,6,7,12,17,22,29,42,54,68,79,84,90,95,107,112,117,122,127,146,151],[],[]⟩
def zk99:ZK:=⟨[0,1,2,3,6],[],[]⟩
def zk100:ZK:=⟨[0,1,4,5,6,7,8,10,26,37],[],[]⟩
def zk101:ZK:=⟨[0,1,2,3,6,7,8,10,14,15,16,17,26],[],[]⟩
def zk102:ZK:=⟨[0,2,3,4,6],[],[]⟩
def zk103:ZK:=⟨[1,2,4,5],[],[]⟩
def zk104:ZK:=⟨[0,1,4,11],[],[]⟩
def zk105:ZK:=⟨[0,1,2,4,6,29],[⟨2,[6,7,10],[],[(6,[0,1,2,3,4]),(7,[0])],[0,1,2,3,4,5,6,7,8,9,10]⟩,⟨5,[8,12],[],[(8,[1,3,4])],[0,1,2,3,4,5,6,7,8,9,10,11,12]⟩],[]⟩
def zk106:ZK:=⟨[0,1,2,3,7,8,15],[⟨4,[11,15,19],[],[(11,[1,2,4,5,6,7]),(15,[2,6,7])],[0,1,2,3,4,5,6,7,8,9,10,11,12,13,14,15,16,17,18,19]⟩],[]⟩
def zk107:ZK:=⟨[0,2],[],[]⟩
def zk108:ZK:=⟨[0,1,4,10],[],[]⟩
def zk110:ZK:=⟨[0,2,4],[],[]⟩
def zk111:ZK:=⟨[0,1,4,5,6,14],[⟨4,[],[],[],[0,1,2,3,4,5,6,7,8,9,10,11,12,13,14,15,16,17,18,19]⟩],[]⟩
def zk112:ZK:=⟨[0,1,4,6],[],[]⟩
def zk113:ZK:=⟨[0,2,4],[],[]⟩
def zk114:ZK:=⟨[0,1,4,5,6,14],[⟨4,[18],[],[],[0,1,2,3,4,5,6,7,8,9,10,11,12,13,14,15,16,17,18,19]⟩],[]⟩
def zk115:ZK:=⟨[0,2,4],[],[]⟩
def zk116:ZK:=⟨[0,1,4,5,6,14],[⟨4,[18],[],[],[0,1,2,3,4,5,6,7,8,9,10,11,12,13,14,15,16,17,18,19]⟩],[]⟩
def zk117:ZK:=⟨[0,2],[⟨1,[],[],[],[0,1,2,3,4,5,6,7,8,9,10,11,12,13,14,15,16,17]⟩],[]⟩
def zk119:ZK:=⟨[0,2,4],[],[]⟩
def zk120:ZK:=⟨[0,2],[],[]⟩
def zk121:ZK:=⟨[0,1,2,3,4,5,6,7,14],[],[]⟩
def zk122:ZK:=⟨[0,2,4],[⟨4,[3],[],[(3,[4,5,6,7])],[0,1,2,4,5,6,7,3,8,9,10]⟩],[]⟩
def zk123:ZK:=⟨[0,2,3,5,6,7,9,10,20,21,22,23,70,71,72,73],[⟨9,[5,16],[],[(5,[6,7,8,9,10,11,12,13,14,15])],[0,1,2,3,4,6,7,8,9,10,11,12,13,14,15,5,16,17]⟩,⟨11,[9,10],[],[(9,[0,1,2,3,4,12]),(10,[12])],[0,1,2,3,4,5,6,7,8,12,9,10,11]⟩,⟨16,[5,15,20],[],[(5,[6,7,8,9,10,11,12,13,14,16,17,18,19]),(15,[16,17,18,19])],[0,1,2,3,4,6,7,8,9,10,11,12,13,14,16,17,18,19,5,15,20,21,22,23,24,25]⟩],[]⟩
def zk124:ZK:=⟨[0,2,3,4,5,6,7,8,9,10,11,13,14,15,18,50,51,52,53,88,89,90,91,122,123,124,125],[⟨1,[5,15,20],[],[(5,[6,7,8,9,10,11,12,13,14,16,17,18,19]),(15,[16,17,18,19])],[0,1,2,3,4,6,7,8,9,10,11,12,13,14,16,17,18,19,5,15,20,21,22,23,24,25,26,27]⟩,⟨9,[20],[],[],[0,1,2,3,4,5,6,7,8,9,10,11,12,13,14,15,16,17,18,19,20,21,22,23,24,25]⟩,⟨13,[8,9,15],[14],[(8,[0,1,2,3]),(15,[12,13])],[0,1,2,3,4,5,6,7,8,9,10,11,12,13,14,15,16,17]⟩,⟨14,[6],[],[],[0,1,2,3,4,5,6]⟩,⟨20,[6],[],[],[0,1,2,3,4,5,6]⟩],[]⟩
def zk125:ZK:=⟨[0,2,4],[⟨3,[],[],[],[0,1,2,3,4,5,6,7,8,9]⟩],[]⟩
def zk126:ZK:=⟨[0,1,4,5,6,8,19,33],[⟨3,[8],[],[(8,[0,1,2,3,4])],[0,1,2,3,4,5,6,7,8,9,10]⟩],[]⟩
def zk127:ZK:=⟨[0,1,3,4,5,7,9,19,32],[⟨3,[],[],[],[0,1,2,3,4,5,6,7,8,9]⟩,⟨5,[6,7],[],[],[0,1,2,3,4,5,6,7,8,9,10,11,12]⟩,⟨9,[6,7,10],[],[(6,[0,1,2,3,4]),(7,[0])],[0,1,2,3,4,5,6,7,8,9,10]⟩],[]⟩
def zk128:ZK:=⟨[0,1,4,5,7,15,16,17,18],[⟨6,[21],[],[],[0,1,2,3,4,5,6,7,8,9,10,11,12,13,14,15,16,17,18,19,20,21]⟩],[]⟩
def zk129:ZK:=⟨[0,1,4],[],[]⟩
def zk130:ZK:=⟨[0,1,2,6,7,8,9,10,11,12,13,14,26,39,48,86],[⟨4,[5,6,11],[10],[(5,[0]),(11,[9])],[0,1,2,3,4,5,6,7,8,9,10,11,12]⟩,⟨9,[4,10,11],[],[(4,[5,6,7,8,9])],[0,1,2,3,5,6,7,8,9,4,10,11,12,13,14,15,16]⟩,⟨10,[4,12],[],[(4,[5,6,7,8,9,10,11])],[0,1,2,3,5,6,7,8,9,10,11,4,12,13,14,15,16,17]⟩,⟨14,[6],[],[],[0,1,2,3,4,5,6]⟩],[]⟩
def zk131:ZK:=⟨[0,1,2,3,4,5,6,7,8,9,10,11,12,13],[⟨4,[2,6,8,9,14],[13],[(2,[0,1,3,4,5,7]),(6,[0,1,7]),(8,[0]),(14,[12])],[0,1,3,4,5,7,2,6,8,9,10,11,12,13,14,15]⟩,⟨5,[3],[],[(3,[1,2])],[0,1,2,3,4,5]⟩],[]⟩
def zk132:ZK:=⟨[0,1,4],[],[]⟩
def zk133:ZK:=⟨[0,1,2,3,5],[],[]⟩
def zk134:ZK:=⟨[0,1,4,6],[⟨3,[9,10],[],[(9,[0,1,2,3,4,5,6,7])],[0,1,2,3,4,5,6,7,8,9,10,11]⟩],[]⟩
def zk135:ZK:=⟨[0,1,2,6,7,9,13,16],[],[]⟩
def zk136:ZK:=⟨[0,1,2,6,7,11],[],[]⟩
def zk137:ZK:=⟨[0,1,2,3,7,8,10,13,14,15,24,28],[⟨9,[9],[],[],[0,1,2,3,4,5,6,7,8,9,10]⟩],[]⟩
def zk138:ZK:=⟨[0,1,4,5,7,15,16,17,18],[⟨6,[21],[],[],[0,1,2,3,4,5,6,7,8,9,10,11,12,13,14,15,16,17,18,19,20,21]⟩],[]⟩
def zk139:ZK:=⟨[0,1,3,4,5,16,22],[],[]⟩
def zk140:ZK:=⟨[0,1,4,5,7,15,16,17,18],[⟨6,[21],[],[],[0,1,2,3,4,5,6,7,8,9,10,11,12,13,14,15,16,17,18,19,20,21]⟩],[]⟩
def zk141:ZK:=⟨[0,1,4,5,6,7,8,26,38],[],[]⟩
def zk142:ZK:=⟨[0,1,2,3,8],[⟨1,[12],[],[],[0,1,2,3,4,5,6,7,8,9,10,11,12]⟩],[]⟩
def zk143:ZK:=⟨[0,1,2,4,5,6,9,15],[],[]⟩
def zk144:ZK:=⟨[0,1,4,6,12],[],[]⟩
def zk145:ZK:=⟨[0,1,2,6,7,8,9,26],[⟨1,[4,10,11],[],[(4,[5,6,7,8,9])],[0,1,2,3,5,6,7,8,9,4,10,11,12,13,14,15,16]⟩,⟨4,[17],[],[],[0,1,2,3,4,5,6,7,8,9,10,11,12,13,14,15,16,17,18,19,20,21]⟩],[]⟩
def zk146:ZK:=⟨[0,1,2,5,6,7],[],[]⟩
def zk147:ZK:=⟨[0,1,2,6,12,21,23],[⟨3,[2],[],[(2,[4,5,6,7])],[0,1,4,5,6,7,2,3,8]⟩],[]⟩
def zk148:ZK:=⟨[0,1,2,3,5,6,7,8,9,10,11,12,15,21,32,36],[],[]⟩
def zk149:ZK:=⟨[0,1,4,8],[],[]⟩
def zk150:ZK:=⟨[0,1,3,4,14,17,24],[],[]⟩
def zk151:ZK:=⟨[0,1,2,3,7,8,26,29],[⟨5,[9],[],[],[0,1,2,3,4,5,6,7,8,9,10]⟩],[]⟩
def zk152:ZK:=⟨[0,2,3,4,5,6,7,8,9,10,11,13,14,21,42,52,73,115,188],[⟨5,[],[],[],[0,1,2,3,4,5,6,7,8,9,10,11]⟩,⟨11,[],[],[],[0,1,2,3,4,5,6,7,8,9,10,11]⟩,⟨13,[4,15],[],[(4,[5,6,7,8,9,10,11,12,13,14])],[0,1,2,3,5,6,7,8,9,10,11,12,13,14,4,15,16]⟩,⟨15,[17,18],[],[(17,[0,1,2,3,4,5,6,7,8,9,10,11,12])],[0,1,2,3,4,5,6,7,8,9,10,11,12,13,14,15,16,17,18,19]⟩,⟨19,[20,25],[24],[(25,[23])],[0,1,2,3,4,5,6,7,8,9,10,11,12,13,14,15,16,17,18,19,20,21,22,23,24,25,26]⟩,⟨20,[11,14],[],[(11,[0])],[0,1,2,3,4,5,6,7,8,9,10,11,12,13,14]⟩,⟨22,[9,10],[],[(9,[0,1,2,3,4])],[0,1,2,3,4,5,6,7,8,9,10,11]⟩,⟨28,[13,19],[],[(13,[0]),(19,[16])],[0,1,2,3,4,5,6,7,8,9,10,11,12,13,14,15,16,17,18,19]⟩,⟨29,[19],[],[],[0,1,2,3,4,5,6,7,8,9,10,11,12,13,14,15,16,17,18,19]⟩],[]⟩
def zk153:ZK:=⟨[0,1,2,5,6,7,8,9,10,11,12,13,14,15,28,46,69],[⟨11,[4],[],[(4,[0,1])],[0,1,2,3,4,5,6]⟩],[]⟩
def zk154:ZK:=⟨[0,1,2,3,8,9,10,11,12,13,25,43,47],[],[]⟩
def zk155:ZK:=⟨[0,2,3,4,11],[],[]⟩
def zk156:ZK:=⟨[0,1,2,4,5,6,7,16],[],[]⟩
def zk157:ZK:=⟨[0,1,4,8],[],[]⟩
def zk160:ZK:=⟨[0,1,2,6],[],[]⟩
def zk161:ZK:=⟨[0,1,2,3,4,5,14],[],[]⟩
def zk162:ZK:=⟨[0,1,2,3,4,5,6,8,9,17,22,23,24,25,32],[],[]⟩
def zk164:ZK:=⟨[0,1,3,4,5,7,9,10],[],[]⟩
def zk165:ZK:=⟨[0,1,2,3,4,11],[],[]⟩
def zk166:ZK:=⟨[0,1,2],[],[]⟩
def zk167:ZK:=⟨[0,1,4,14],[],[]⟩
def zk168:ZK:=⟨[0],[],[]⟩
def zk169:ZK:=⟨[0],[],[]⟩
def zk170:ZK:=⟨[0,1,2,3,6,7,8,9,10,30],[],[]⟩
def zk171:ZK:=⟨[0,1,5,6,13,14,15,16,32],[⟨5,[7],[],[],[0,1,2,3,4,5,6,7]⟩],[]⟩
def zk172:ZK:=⟨[0,1,2,6,8],[],[]⟩
def zk173:ZK:=⟨[0,1,2,6,7,9,10,28,29,30,31],[⟨1,[14,15],[],[(14,[0,1,2,3,4,5,6,7,8,9])],[0,1,2,3,4,5,6,7,8,9,10,11,12,13,14,15,16]⟩,⟨5,[7,12],[11],[(12,[10])],[0,1,2,3,4,5,6,7,8,9,10,11,12,13]⟩,⟨6,[7,11],[],[(11,[10])],[0,1,2,3,4,5,6,7,8,9,10,11]⟩,⟨7,[7],[],[],[0,1,2,3,4,5,6,7]⟩,⟨8,[8],[],[],[0,1,2,3,4,5,6,7,8]⟩,⟨9,[7,8,11],[],[(7,[0,1,2,3,4]),(8,[0])],[0,1,2,3,4,5,6,7,8,9,10,11]⟩],[]⟩
def zk174:ZK:=⟨[0,1,2,6,7,8,12,19,20,21],[],[]⟩
def zk175:ZK:=⟨[0,1,2,3,5,8,9,10,11],[],[]⟩
def zk176:ZK:=⟨[0,1,2,5,6,7,8,9,11,12,21,22,23,24,35],[⟨8,[17,23,25],[],[(17,[0,1,2,3,4,5]),(23,[3,4,5,20,21]),(25,[21])],[0,1,2,3,4,5,6,7,8,9,10,11,12,13,14,15,16,17,18,19,20,21,22,23,24,25]⟩],[]⟩
def zk177:ZK:=⟨[0,1,4,5,15,16,17],[],[]⟩
def zk178:ZK:=⟨[0,1,5,6,7,8,10,11,12,14,15,16,17,37],[⟨8,[6],[],[],[0,1,2,3,4,5,6]⟩],[]⟩
def zk179:ZK:=⟨[0,1,2,5,6,7,8,9,10,11,12,14,25,26,27,28],[⟨10,[2],[],[(2,[0,3])],[0,1,3,2,4,5,6]⟩],[]⟩
def zk180:ZK:=⟨[0,1,4,5,15,16,17],[],[]⟩
def zk181:ZK:=⟨[0,1,2,3,8,9,10,11,12,13,14,26,34,40,46],[],[]⟩
def zk182:ZK:=⟨[0,1,2,3,4,5,6,7,8,9,20],[⟨2,[1,3,4,9],[8],[(1,[0,2]),(3,[0]),(9,[7])],[0,2,1,3,4,5,6,7,8,9,10]⟩,⟨5,[3],[],[(3,[1,2])],[0,1,2,3,4,5]⟩],[]⟩
def zk183:ZK:=⟨[0,1,4,6],[⟨3,[9,10],[],[(9,[0,1,2,3,4,5,6,7])],[0,1,2,3,4,5,6,7,8,9,10,11]⟩],[]⟩
def zk184:ZK:=⟨[0,2],[⟨1,[],[],[],[0,1,2,3,4,5,6,7,8,9,10,11,12,13,14,15,16,17]⟩],[]⟩
def zk185:ZK:=⟨[0,2,3,4,5,11],[],[]⟩
def zk186:ZK:=⟨[0,1,2,4,6,7,11,24],[⟨7,[9],[],[],[0,1,2,3,4,5,6,7,8,9]⟩],[]⟩
def zk187:ZK:=⟨[0,2,3,13],[⟨0,[],[],[],[0,1,2,3,4,5,6,7,8,9]⟩,⟨1,[12],[],[],[0,1,2,3,4,5,6,7,8,9,10,11,12,13]⟩,⟨2,[10],[],[],[0,1,2,3,4,5,6,7,8,9,10,11]⟩,⟨3,[12],[],[],[0,1,2,3,4,5,6,7,8,9,10,11,12]⟩],[]⟩
def zk188:ZK:=⟨[0,1,2,3,4,5,6],[⟨2,[2,3,4,7],[],[(2,[0,1]),(3,[0])],[0,1,2,3,4,5,6,7,8]⟩],[]⟩
def zk189:ZK:=⟨[0,1,4,5,6,8,9,10,11,12],[],[]⟩
def zk190:ZK:=⟨[0,1,4,5,6,10,13],[],[]⟩
def zk191:ZK:=⟨[0,1,2,3,7,8,9],[⟨1,[4,8,9,10],[],[(4,[5,6,7]),(8,[5,6])],[0,1,2,3,5,6,7,4,8,9,10,11,12,13,14]⟩],[]⟩
def zk192:ZK:=⟨[0,1,3,7,12],[],[]⟩
def zk193:ZK:=⟨[0,1,2,4],[⟨1,[8,12],[],[(12,[11])],[0,1,2,3,4,5,6,7,8,9,10,11,12]⟩,⟨2,[8],[],[],[0,1,2,3,4,5,6,7,8]⟩],[]⟩
def zk194:ZK:=⟨[0,1,2,6,7,10],[],[]⟩
def zk195:ZK:=⟨[0,1,2,4,5,7,8,9,10,11,12,18],[],[]⟩
def zk196:ZK:=⟨[0,1,2],[],[]⟩
def zk197:ZK:=⟨[0,1,2,3,4],[],[]⟩
def zk198:ZK:=⟨[0,1,2,5,6,7,8,10,18,29,32],[⟨6,[],[],[],[0,1,2,3,4,5,6,7,8,9,10]⟩,⟨12,[7],[],[],[0,1,2,3,4,5,6,7]⟩],[]⟩
def zk199:ZK:=⟨[0,1,2,6,7,8,21],[],[]⟩
def zk200:ZK:=⟨[0,1,4],[],[]⟩
def zk201:ZK:=⟨[0,1,4],[⟨1,[],[],[],[0,1,2,3,4,5,6,7,8,9,10,11,12]⟩],[]⟩
def zk202:ZK:=⟨[0,1,2,3,4,5,6,8,9,10,11,12,21],[],[]⟩
def zk203:ZK:=⟨[0,2,4],[⟨3,[],[],[],[0,1,2,3,4,5,6,7,8,9]⟩],[]⟩
def zk204:ZK:=⟨[0,2,3,13],[⟨0,[],[],[],[0,1,2,3,4,5,6,7,8,9]⟩,⟨1,[12],[],[],[0,1,2,3,4,5,6,7,8,9,10,11,12,13]⟩,⟨2,[10],[],[],[0,1,2,3,4,5,6,7,8,9,10,11]⟩,⟨3,[12],[],[],[0,1,2,3,4,5,6,7,8,9,10,11,12]⟩],[]⟩
def zk205:ZK:=⟨[0,2,4],[⟨3,[],[],[],[0,1,2,3,4,5,6,7,8,9]⟩],[]⟩
def zk206:ZK:=⟨[0,2,3,13],[⟨0,[],[],[],[0,1,2,3,4,5,6,7,8,9]⟩,⟨1,[12],[],[],[0,1,2,3,4,5,6,7,8,9,10,11,12,13]⟩,⟨2,[10],[],[],[0,1,2,3,4,5,6,7,8,9,10,11]⟩,⟨3,[12],[],[],[0,1,2,3,4,5,6,7,8,9,10,11,12]⟩],[]⟩
def zk207:ZK:=⟨[0,2,3,4,5,9,19],[⟨5,[4],[],[(4,[0,1,2,3,5])],[0,1,2,3,5,4,6,7]⟩],[]⟩
def zk208:ZK:=⟨[0,2],[⟨1,[],[],[],[0,1,2,3,4,5,6,7,8,9,10,11,12,13,14]⟩],[]⟩
def zk209:ZK:=⟨[0,2],[],[]⟩
def zk210:ZK:=⟨[0,1,4,6,12,18,24,35],[],[]⟩
def zk211:ZK:=⟨[0,1,4,5,6,7,11],[],[]⟩
def zk212:ZK:=⟨[0,2,3,4,8],[],[]⟩
def zk213:ZK:=⟨[0,1,4,5,13,16],[],[]⟩
def zk214:ZK:=⟨[0,1,2,3,7,8,9],[⟨1,[7,9],[],[(7,[0,1,2,3,4,5])],[0,1,2,3,4,5,6,7,8,9,10,11,12,13]⟩],[]⟩
def zk215:ZK:=⟨[0,1,4,5,6,13,17,34],[⟨6,[10],[],[(10,[6,7,8,9,11])],[0,1,2,3,4,5,6,7,8,9,11,10,12,13,14]⟩],[]⟩
def zk216:ZK:=⟨[0,1,2,6,7,14],[],[]⟩
def zk217:ZK:=⟨[0,1,2,3,4,5,6,7,8,16,22,39],[],[]⟩
def zk218:ZK:=⟨[0,1,2,6],[⟨2,[7,10],[],[(7,[0])],[0,1,2,3,4,5,6,7,8,9,10]⟩],[]⟩
def zk219:ZK:=⟨[0,1,2,6,8],[],[]⟩
def zk220:ZK:=⟨[0,1,2,3,4,10,11,12,13,14,25,34],[],[]⟩
def zk221:ZK:=⟨[0,1,2,3,5,6,7,8,9,17,28],[],[]⟩
def zk222:ZK:=⟨[0,1,2,6,7,8,9,13,33],[],[]⟩
def zk223:ZK:=⟨[0,1,2,5,6,7,8,9,10,11,24,41],[⟨6,[12],[],[],[0,1,2,3,4,5,6,7,8,9,10,11,12,13,14]⟩],[]⟩
def zk224:ZK:=⟨[0,1,2,3,4,18],[],[]⟩
def zk236:ZK:=⟨[0,1,4,5,6,7,8,9,10,11,14,22,31,37,59,60,61,62],[⟨15,[5,6],[],[(5,[0,1])],[0,1,2,3,4,5,6]⟩,⟨17,[3,5],[],[(3,[0,1]),(5,[1,4])],[0,1,2,3,4,5,6,7]⟩],[]⟩
def zk237:ZK:=⟨[0,2,3,4,5],[],[]⟩
def zk240:ZK:=⟨[0,1,3,4,5,6,10,25],[],[]⟩
def zk241:ZK:=⟨[0,1,2],[],[]⟩
def zk242:ZK:=⟨[0,1,2,6],[],[]⟩
def zk243:ZK:=⟨[0,1,2],[],[]⟩
def zk244:ZK:=⟨[0,1,2],[],[]⟩
def zk245:ZK:=⟨[0,1,2],[],[]⟩
def zk246:ZK:=⟨[0,1,2],[],[]⟩
def zk247:ZK:=⟨[0,1,2,6],[],[]⟩
def zk248:ZK:=⟨[0,1,2],[],[]⟩
def zk249:ZK:=⟨[0,1,2],[],[]⟩
def zk250:ZK:=⟨[0,1,2],[],[]⟩
def zk251:ZK:=⟨[0,1,2],[],[]⟩
def zk252:ZK:=⟨[0,1,2],[],[]⟩
def zk253:ZK:=⟨[0,1,2],[],[]⟩
def zk254:ZK:=⟨[0,1,2],[],[]⟩
def zk255:ZK:=⟨[0,1,2],[],[]⟩
def zk256:ZK:=⟨[0,1,2],[],[]⟩
def zk257:ZK:=⟨[0,1,2],[],[]⟩
def zk258:ZK:=⟨[0,1,2],[],[]⟩
def zk259:ZK:=⟨[0,1,2],[],[]⟩
def zk260:ZK:=⟨[0,1,2],[],[]⟩
def zk261:ZK:=⟨[0,1,2],[],[]⟩
def zk262:ZK:=⟨[0,1,2],[],[]⟩
def zk264:ZK:=⟨[0,1,3,4,5,6,10],[⟨6,[9],[],[],[0,1,2,3,4,5,6,7,8,9]⟩],[]⟩
def zk265:ZK:=⟨[0,1,2,3,4,10,11,12,13,14,15,21,40,58],[],[]⟩
def zk266:ZK:=⟨[0,1,2,3,4,5,6,7,8],[⟨2,[5,6,7,10],[],[(5,[0,1]),(6,[0])],[0,1,2,3,4,5,6,7,8,9,10,11]⟩],[]⟩
def zk267:ZK:=⟨[0,1,2,3,4,5,6,7,8],[],[]⟩
def zk268:ZK:=⟨[0,2,3,4,5,6,12],[⟨4,[10],[],[],[0,1,2,3,4,5,6,7,8,9,10]⟩,⟨5,[14],[],[],[0,1,2,3,4,5,6,7,8,9,10,11,12,13,14]⟩],[]⟩
def zk269:ZK:=⟨[0,1,2,3,4,5,6,7,8,9,15],[⟨7,[2,3],[],[(2,[1])],[0,1,2,3,4]⟩],[]⟩
def zk270:ZK:=⟨[0,2,3,4,5,6,12],[⟨4,[10],[],[],[0,1,2,3,4,5,6,7,8,9,10]⟩,⟨5,[14],[],[],[0,1,2,3,4,5,6,7,8,9,10,11,12,13,14]⟩],[]⟩
def zk271:ZK:=⟨[0,1,2,3,4,5,6,16],[⟨2,[8,13],[12],[(13,[11])],[0,1,2,3,4,5,6,7,8,9,10,11,12,13,14]⟩],[]⟩
def zk272:ZK:=⟨[0,1,2,3,5,6,7,8],[],[]⟩
def zk273:ZK:=⟨[0,2],[],[]⟩
def zk274:ZK:=⟨[0,2,3,4,5,6,12],[⟨4,[10],[],[],[0,1,2,3,4,5,6,7,8,9,10]⟩,⟨5,[14],[],[],[0,1,2,3,4,5,6,7,8,9,10,11,12,13,14]⟩],[]⟩
def zk275:ZK:=⟨[0,1,2,3,4],[],[]⟩
def zk276:ZK:=⟨[0,1,3,9],[⟨1,[],[],[],[0,1,2,3,4,5]⟩],[]⟩
def zk277:ZK:=⟨[0,2,3,4,6,7,8,9,10,17],[],[]⟩
def zk278:ZK:=⟨[0,2],[],[]⟩
def zk279:ZK:=⟨[0,1,3,5,12],[],[]⟩
def zk280:ZK:=⟨[0,1,4,5,6,8,12,13,14,15,25],[],[]⟩
def zk281:ZK:=⟨[0,1,4,12],[],[]⟩
def zk282:ZK:=⟨[0,1,2,3,4,5,6,7,8],[],[]⟩
def zk283:ZK:=⟨[0,1,2],[⟨1,[1],[],[(1,[3,4])],[0,3,4,1,2,5,6]⟩],[]⟩
def zk285:ZK:=⟨[0,1,3,4,5,16],[⟨1,[5],[],[],[0,1,2,3,4,5,6,7,8,9,10]⟩],[]⟩
def zk286:ZK:=⟨[0,1,2,4,5,6,15],[],[]⟩
def zk287:ZK:=⟨[0,2,5],[],[]⟩
def zk288:ZK:=⟨[0],[],[]⟩
def zk289:ZK:=⟨[0],[],[]⟩
def zk290:ZK:=⟨[0],[],[]⟩
def zk291:ZK:=⟨[0,1,4,12],[],[]⟩
def zk292:ZK:=⟨[0,1,2,3,4,8,10,11,12,13,22],[],[]⟩
def zk293:ZK:=⟨[0,1,2],[⟨1,[1],[],[(1,[3,4])],[0,3,4,1,2,5,6]⟩],[]⟩
def zk295:ZK:=⟨[0,1],[],[]⟩
def zk296:ZK:=⟨[0,2,3,4,10,22],[],[]⟩
def zk297:ZK:=⟨[0,2,3],[],[]⟩
def zk298:ZK:=⟨[0,1,4,10],[],[]⟩
def zk299:ZK:=⟨[0,2,3,4,5,6,7,18,31],[],[]⟩
def zk300:ZK:=⟨[0,1,2,6,7,8],[⟨6,[3,6],[],[(3,[4,5])],[0,1,2,4,5,3,6,7]⟩],[]⟩
def zk307:ZK:=⟨[0,2,3,4,5,7,14,15,16,17,18],[],[]⟩
def zk308:ZK:=⟨[0,1,2],[],[]⟩
def zk309:ZK:=⟨[0],[],[]⟩
def zk310:ZK:=⟨[0],[],[]⟩
def zk311:ZK:=⟨[0],[],[]⟩
def zk313:ZK:=⟨[0,1,4,5,6,7,12,19,29],[],[]⟩
def zk314:ZK:=⟨[0,1,2,3,4,8],[],[]⟩
def zk315:ZK:=⟨[0,1,4,6],[⟨3,[10,17],[],[(10,[0,1,2,3,4,5,6])],[0,1,2,3,4,5,6,7,8,9,10,11,12,13,14,15,16,17]⟩],[]⟩
def zk316:ZK:=⟨[0,1,4,6,8,19],[],[]⟩
def zk317:ZK:=⟨[0,2,3,4,5,6,7],[],[]⟩
def zk318:ZK:=⟨[0,2,3,4,5,6,7],[],[]⟩
def zk319:ZK:=⟨[0,2,3,5],[],[]⟩
def zk320:ZK:=⟨[0,1,3,15],[],[]⟩
def zk321:ZK:=⟨[0,1,2,3,4,6,7,8,35],[],[]⟩
def zk322:ZK:=⟨[0,1,2,3,4],[],[]⟩
def zk323:ZK:=⟨[0,1,2,3,4,5,13],[],[]⟩
def zk324:ZK:=⟨[0,1,4,5,6,7,12,19,29],[],[]⟩
def zk325:ZK:=⟨[0,1,2],[],[]⟩
def zk326:ZK:=⟨[0,1,2,3],[⟨1,[],[],[],[0,1,2,3,4,5,6]⟩,⟨2,[7],[],[],[0,1,2,3,4,5,6,7]⟩],[]⟩
def zk327:ZK:=⟨[0,1,2,3,4,6,7,8,9,18],[⟨4,[2,4,5],[],[(2,[0,3]),(4,[0])],[0,1,3,2,4,5,6,7,8,9]⟩],[]⟩
def zk328:ZK:=⟨[0,1,2,5,6,7,8,9,10,21,30],[],[]⟩
def zk329:ZK:=⟨[0,1,2,3],[⟨1,[1,3],[],[(1,[2])],[0,2,1,3,4,5]⟩],[]⟩
def zk332:ZK:=⟨[0,2,3,4,7,15],[],[]⟩
def zk333:ZK:=⟨[0,1,2,3,4,6],[],[]⟩
def zk334:ZK:=⟨[0,1,2,3,4,6],[],[]⟩
def zk335:ZK:=⟨[0,1,2,3,4,5,6,7,8],[],[]⟩
def zk336:ZK:=⟨[0,1,2,5,6,7,8,9,10,11,22,31],[],[]⟩
def zk337:ZK:=⟨[0,1,2,3],[],[]⟩
def zk340:ZK:=⟨[0,1,3,4,6,9,10,11,12],[],[]⟩
def zk341:ZK:=⟨[0,1,2],[],[]⟩
def zk342:ZK:=⟨[0,1],[],[]⟩
def zk343:ZK:=⟨[0,1,2],[],[]⟩
def zk344:ZK:=⟨[0,1],[],[]⟩
def zk345:ZK:=⟨[0,1,2],[],[]⟩
def zk346:ZK:=⟨[0,1],[],[]⟩
def zk347:ZK:=⟨[0,1,4,5,7,8,9,16],[],[]⟩
def zk348:ZK:=⟨[0,2],[],[]⟩
def zk349:ZK:=⟨[0,1,4,5,8],[],[]⟩
def zk350:ZK:=⟨[0,2,3,4,5,6,12],[],[]⟩
def zk351:ZK:=⟨[0,1,2,3,4,7,8,9,31],[],[]⟩
def zk352:ZK:=⟨[0,1,4,5,6,7,19],[],[]⟩
def zk353:ZK:=⟨[0,1,2],[],[]⟩
def zk354:ZK:=⟨[0,1,2],[],[]⟩
def zk356:ZK:=⟨[0,1,4,5,6,7,19],[],[]⟩
def zk357:ZK:=⟨[0,1,4,5,6,9],[],[]⟩
def zk358:ZK:=⟨[0,1,4,5,6,8,15],[],[]⟩
end
section
open Go.RowKit
structure ZW (n:Nat) (l:List (Nat × Value)) (L:List Asn) (p:Act→World→Prop):Prop where
 h:∀ a w,Fr a n l→Mem w L→p a w
def ZA (K:ZK) (q p:Prop):Prop:=q→p
def YK (K:ZK) (p:Prop):Prop:=p
section
variable {ops:Array Oper} {Q:Exit→Act→World→Prop} {X:Act→World→Prop} {rest:List Oper} {o:Oper} {a:Act} {w:World} {n:Nat} {l l':List (Nat × Value)} {L L':List Asn} {K:ZK} {p q:Prop}
theorem zI (K:ZK) {p:Act→World→Prop} (F:Fr a n l) (M:Mem w L) (h:YK K (ZW n l L p)):p a w:=ZW.h h a w F M
theorem zO {p:Act→World→Prop} (h:∀ a w,Fr a n l→Mem w L→p a w):YK K (ZW n l L p):=ZW.mk h
theorem za0:ZA K q q:=id
theorem zaK:ZA K (YK K p) p:=id
theorem zaN (hf:filtO K.s l=some l') (h:ZA K q (ZW n l' L (Q .normal))):ZA K q (ZW n l L (wpList Tryz.prog ops Q [])):=fun hq=>⟨fun a w F M=>(h hq).h a w (F.filt K.s hf) M⟩
theorem zaM (h:ZA K q (ZW n l L (Q .normal))):ZA K q (ZW n l L (wpList Tryz.prog ops Q [])):=fun hq=>⟨(h hq).h⟩
theorem za1 (s:ZOn ops o n l L l' L') (h:ZA K q (ZW n l' L' (wpList Tryz.prog ops Q rest))):ZA K q (ZW n l L (wpList Tryz.prog ops Q (o::rest))):=fun hq=>⟨fun a w F M=>s Q rest a w F M (h hq).h⟩
theorem zaP {r s:List Oper} (h:ZA K q (ZW n l L (wpList Tryz.prog ops Q (o::List.append r s)))):ZA K q (ZW n l L (wpList Tryz.prog ops Q (List.append (o::r) s))):=h
theorem zaP0 {s:List Oper} (h:ZA K q (ZW n l L (wpList Tryz.prog ops Q s))):ZA K q (ZW n l L (wpList Tryz.prog ops Q (List.append [] s))):=h
def ZOb (ops:Array Oper) (o:Oper) (n:Nat) (l:List (Nat × Value)) (L:List Asn) (fl:Nat→List (Nat × Value)) (fL:Nat→List Asn):Prop:=∀ (Q:Exit→Act→World→Prop) (rest:List Oper) (a:Act) (w:World),Fr a n l→Mem w L→(∀ b a w,Fr a n (fl b)→Mem w (fL b)→wpList Tryz.prog ops Q rest a w)→wpList Tryz.prog ops Q (o::rest) a w
theorem zob {d:Nat} {fv:Nat→Value} {fL:Nat→List Asn} (hw:Wanted o ops l=some true:=by exact rfl) (hd:o.dst=some d:=by exact rfl) (hn:Nat.ble (d+1) n=true:=by exact rfl) (s:∀ C:Value→List Asn→Prop,(∀ b,C (fv b) (fL b))→AC o l L n C:=by(intro C h;exact acA h)):ZOb ops o n l L (fun b=>(d,fv b)::l) fL:=fun _ _ _ _ F M h=>sv_act F M hw hd hn (s _ h)
theorem zaB {fl:Nat→List (Nat × Value)} {fL:Nat→List Asn} {q:Nat→Prop} (s:ZOb ops o n l L fl fL) (h:∀ b,ZA K (q b) (ZW n (fl b) (fL b) (wpList Tryz.prog ops Q rest))):ZA K (∀ b,q b) (ZW n l L (wpList Tryz.prog ops Q (o::rest))):=fun hq=>⟨fun a w F M=>s Q rest a w F M fun b=>(h b (hq b)).h⟩
theorem zcR {id:Nat} {os:List Oper} (h:ZA K q (ZW n l L (wpList Tryz.prog os.toArray Q os))):ZA K q (ZW n l L ((Code.region id os.toArray false).wp Tryz.prog Q)):=fun hq=>⟨fun a w F M=>sx_region ((h hq).h a w F M)⟩
theorem zcQ {x y:Code} (h:ZA K q (ZW n l L (x.wp Tryz.prog (Exit.then (y.wp Tryz.prog Q) Q)))):ZA K q (ZW n l L ((Code.seq x y).wp Tryz.prog Q)):=fun hq=>⟨fun a w F M=>wp_seq ((h hq).h a w F M)⟩
theorem zcB {id:Nat} {x:Code} (h:ZA K q (ZW n l L (x.wp Tryz.prog (Exit.inBlock id Q)))):ZA K q (ZW n l L ((Code.block id x).wp Tryz.prog Q)):=fun hq=>⟨fun a w F M=>wp_block ((h hq).h a w F M)⟩
theorem zcS {x:Code} (h:ZA K q (ZW n l L (x.wp Tryz.prog (Exit.noGoto Q)))):ZA K q (ZW n l L ((Code.scope x).wp Tryz.prog Q)):=fun hq=>⟨fun a w F M=>wp_scope_straight ((h hq).h a w F M)⟩
theorem zcL {i:Nat} (h:ZA K q (ZW n l L (Q .normal))):ZA K q (ZW n l L ((Code.label i).wp Tryz.prog Q)):=fun hq=>⟨fun a w F M=>wp_label ((h hq).h a w F M)⟩
theorem zcK (h:ZA K q (ZW n l L (Q .normal))):ZA K q (ZW n l L (Code.skip.wp Tryz.prog Q)):=fun hq=>⟨fun a w F M=>wp_skip ((h hq).h a w F M)⟩
theorem zcE {i:Nat} (h:ZA K q (ZW n l L (Q (.exit i)))):ZA K q (ZW n l L ((Code.exit i).wp Tryz.prog Q)):=fun hq=>⟨fun a w F M=>wp_exit ((h hq).h a w F M)⟩
theorem zcX (h:ZA K q (ZW n l L (Q .ret))):ZA K q (ZW n l L (Code.ret.wp Tryz.prog Q)):=fun hq=>⟨fun a w F M=>wp_ret ((h hq).h a w F M)⟩
theorem zcT {c:Operand} {x y:Code} (hc:evl l c=some (.bool true)) (h:ZA K q (ZW n l L (x.wp Tryz.prog Q))):ZA K q (ZW n l L ((Code.cond c x y).wp Tryz.prog Q)):=fun hq=>⟨fun a w F M=>sx_cond_t F hc ((h hq).h a w F M)⟩
theorem zcF {c:Operand} {x y:Code} (hc:evl l c=some (.bool false)) (h:ZA K q (ZW n l L (y.wp Tryz.prog Q))):ZA K q (ZW n l L ((Code.cond c x y).wp Tryz.prog Q)):=fun hq=>⟨fun a w F M=>sx_cond_f F hc ((h hq).h a w F M)⟩
theorem zeN (h:ZA K q (ZW n l L X)):ZA K q (ZW n l L (Exit.then X Q .normal)):=h
theorem zeR (h:ZA K q (ZW n l L (Q .ret))):ZA K q (ZW n l L (Exit.then X Q .ret)):=h
theorem zeX {i:Nat} (h:ZA K q (ZW n l L (Q (.exit i)))):ZA K q (ZW n l L (Exit.then X Q (.exit i))):=h
theorem zbN {j:Nat} (h:ZA K q (ZW n l L (Q .normal))):ZA K q (ZW n l L (Exit.inBlock j Q .normal)):=h
theorem zbR {j:Nat} (h:ZA K q (ZW n l L (Q .ret))):ZA K q (ZW n l L (Exit.inBlock j Q .ret)):=h
theorem zbX {i j:Nat} (he:Nat.beq i j=true) (h:ZA K q (ZW n l L (Q .normal))):ZA K q (ZW n l L (Exit.inBlock j Q (.exit i))):=fun hq=>⟨fun a w F M=>by
 have e:i=j:=Nat.eq_of_beq_eq_true he
 simp only[Exit.inBlock,e,if_true]
 exact(h hq).h a w F M⟩
theorem zbY {i j:Nat} (he:Nat.beq i j=false) (h:ZA K q (ZW n l L (Q (.exit i)))):ZA K q (ZW n l L (Exit.inBlock j Q (.exit i))):=fun hq=>⟨fun a w F M=>by
 have e:i≠j:=fun e=>by rw[e,Nat.beq_refl] at he;cases he
 simp only[Exit.inBlock,e,if_false]
 exact(h hq).h a w F M⟩
theorem zgN (h:ZA K q (ZW n l L (Q .normal))):ZA K q (ZW n l L (Exit.noGoto Q .normal)):=h
theorem zgR (h:ZA K q (ZW n l L (Q .ret))):ZA K q (ZW n l L (Exit.noGoto Q .ret)):=h
theorem zgX {i:Nat} (h:ZA K q (ZW n l L (Q (.exit i)))):ZA K q (ZW n l L (Exit.noGoto Q (.exit i))):=h
section
variable {E Fl:List Nat} {S:List (Nat × List Nat)} {σ done:List Nat} {i:Nat}
theorem zpA (s:ZPo ops n E Fl S i done l L l' L') (h:ZA K q (PW Tryz.prog ops n Q E Fl S σ (i::done) l' L')):ZA K q (PW Tryz.prog ops n Q E Fl S (i::σ) done l L):=fun hq=>s Q σ (h hq)
theorem zpB {fl:Nat→List (Nat × Value)} {fL:Nat→List Asn} {q:Nat→Prop} (s:ZPb ops n E Fl S i done l L fl fL) (h:∀ b,ZA K (q b) (PW Tryz.prog ops n Q E Fl S σ (i::done) (fl b) (fL b))):ZA K (∀ b,q b) (PW Tryz.prog ops n Q E Fl S (i::σ) done l L):=fun hq=>s Q σ fun b=>h b (hq b)
theorem zpN (hf:filtO K.s l=some l') (h:ZA K q (ZW n l' L (Q .normal))):ZA K q (PW Tryz.prog ops n Q E Fl S [] done l L):=fun hq=>pv_nil fun a w F M=>(h hq).h a w (F.filt K.s hf) M
theorem zpM (h:ZA K q (ZW n l L (Q .normal))):ZA K q (PW Tryz.prog ops n Q E Fl S [] done l L):=fun hq=>pv_nil (h hq).h
theorem zpV {js:List Nat} (hr:Rvs Tryz.prog ops n js l L) (h:ZA K q p):ZA K q (Rvs Tryz.prog ops n js l L∧p):=fun hq=>⟨hr,h hq⟩
end
section
variable {E Fl js:List Nat} {r:Tr} {i:Nat}
def ZTo (ops:Array Oper) (n:Nat) (E Fl:List Nat) (i:Nat) (js:List Nat) (l:List (Nat × Value)) (L:List Asn) (l':List (Nat × Value)) (L':List Asn):Prop:=∀ (Q:Exit→Act→World→Prop) (r:Tr),PV Tryz.prog ops n Q E Fl r l' L'→PV Tryz.prog ops n Q E Fl (.cons i js r) l L
theorem zt1 (s:ZTo ops n E Fl i js l L l' L') (h:ZA K q (PV Tryz.prog ops n Q E Fl r l' L')):ZA K q (PV Tryz.prog ops n Q E Fl (.cons i js r) l L):=fun hq=>s Q r (h hq)
theorem ztN (hf:filtO K.s l=some l') (h:ZA K q (ZW n l' L (Q .normal))):ZA K q (PV Tryz.prog ops n Q E Fl .nil l L):=fun hq=>tv_nil fun a w F M=>(h hq).h a w (F.filt K.s hf) M
theorem ztM (h:ZA K q (ZW n l L (Q .normal))):ZA K q (PV Tryz.prog ops n Q E Fl .nil l L):=fun hq=>tv_nil (h hq).h
theorem zts1 {d:Nat} {v:Value} (hi:ops[i]? = some o:=by exact rfl) (hf:Fl.contains i=false:=by exact rfl) (he:E.contains i=false:=by exact rfl) (hw:Wanted o ops l=some true:=by exact rfl) (hd:o.dst=some d:=by exact rfl) (hr:RT o l L n v:=by exact rtA):ZTo ops n E Fl i js l L ((d,v)::l) L:=fun _ _ h=>tv1 h hi hf he hw hd hr
theorem zts3 {v:Value} (hi:ops[i]? = some o:=by exact rfl) (hf:Fl.contains i=false:=by exact rfl) (he:E.contains i=true:=by exact rfl) (hw:Wanted o ops l=some true:=by exact rfl) (hd:o.dst=none:=by exact rfl) (s:∀ C:Value→List Asn→Prop,C v L'→AC o l L n C:=by(intro C h;exact acB h)) (hr:Rvs Tryz.prog ops n js l L':=by exact rvsA):ZTo ops n E Fl i js l L l L':=fun _ _ h=>tv3 h hi hf he hw hd s hr
theorem ztsK {d:Nat} (hi:ops[i]? = some o:=by exact rfl) (hf:Fl.contains i=false:=by exact rfl) (hw:Wanted o ops l=some false:=by exact rfl) (hd:o.dst=some d:=by exact rfl):ZTo ops n E Fl i js l L ((d,undef)::l) L:=fun _ _ h=>tvK h hi hf hw hd
theorem ztsK0 (hi:ops[i]? = some o:=by exact rfl) (hf:Fl.contains i=false:=by exact rfl) (he:E.contains i=true:=by exact rfl) (hw:Wanted o ops l=some false:=by exact rfl) (hd:o.dst=none:=by exact rfl):ZTo ops n E Fl i js l L l L:=fun _ _ h=>tvK0 h hi hf he hw hd
def ZTb (ops:Array Oper) (n:Nat) (E Fl:List Nat) (i:Nat) (js:List Nat) (l:List (Nat × Value)) (L:List Asn) (fl:Nat→List (Nat × Value)) (fL:Nat→List Asn):Prop:=∀ (Q:Exit→Act→World→Prop) (r:Tr),(∀ b,PV Tryz.prog ops n Q E Fl r (fl b) (fL b))→PV Tryz.prog ops n Q E Fl (.cons i js r) l L
theorem ztb2 {d:Nat} {fv:Nat→Value} {fL:Nat→List Asn} (hi:ops[i]? = some o:=by exact rfl) (hf:Fl.contains i=false:=by exact rfl) (he:E.contains i=true:=by exact rfl) (hw:Wanted o ops l=some true:=by exact rfl) (hd:o.dst=some d:=by exact rfl) (s:∀ C:Value→List Asn→Prop,(∀ b,C (fv b) (fL b))→AC o l L n C:=by(intro C h;exact acA h)) (hr:∀ b,Rvs Tryz.prog ops n js ((d,fv b)::l) (fL b):=by(intro b;exact rvsA)):ZTb ops n E Fl i js l L (fun b=>(d,fv b)::l) fL:=fun _ _ h=>tv2 h hi hf he hw hd s hr
theorem ztbF {t:TypeId} {cs:List Value} {d:Nat} (hi:ops[i]? = some o:=by exact rfl) (hf:Fl.contains i=true:=by exact rfl) (ho:o.op=.alloc t:=by exact rfl) (hz:ZT t cs:=by exact inferInstance) (hd:o.dst=some d:=by exact rfl):ZTb ops n E Fl i js l L (fun b=>(d,.pointer (some ⟨b,0,none⟩))::l) (fun b=>pt b cs t::L):=fun _ _ h=>tvF h hi hf ho hz hd
theorem ztB {fl:Nat→List (Nat × Value)} {fL:Nat→List Asn} {q:Nat→Prop} (s:ZTb ops n E Fl i js l L fl fL) (h:∀ b,ZA K (q b) (PV Tryz.prog ops n Q E Fl r (fl b) (fL b))):ZA K (∀ b,q b) (PV Tryz.prog ops n Q E Fl (.cons i js r) l L):=fun hq=>s Q r fun b=>h b (hq b)
end
theorem zdP {id:Nat} {E Fl:List Nat} {S:List (Nat × List Nat)} {σ:List Nat} {i:Nat} (hf:zfind K.d id=some ⟨i,E,Fl,S,σ⟩) (hok:drawOK ops E Fl S σ n=true) (hFl:FlOK Tryz.prog ops Fl) (h:ZA K q (PW Tryz.prog ops n Q E Fl S σ [] l L)):ZA K q (ZW n l L ((Code.region id ops true).wp Tryz.prog Q)):=fun hq=>⟨fun a w F M=>sv_draw E Fl S σ F M hok hFl (h hq)⟩
theorem zdT {id:Nat} {E Fl:List Nat} {t:Tr} {i:Nat} (hf:zfindT K.t id=some ⟨i,E,Fl,t⟩) (hok:drawT ops E Fl t n=true) (hFl:FlOK Tryz.prog ops Fl) (h:ZA K q (PV Tryz.prog ops n Q E Fl t l L)):ZA K q (ZW n l L ((Code.region id ops true).wp Tryz.prog Q)):=fun hq=>⟨fun a w F M=>svTree E Fl t F M (h hq) hok hFl⟩
theorem ztA {E Fl:List Nat} {t1 t2:Tr} {q1 q2:Prop} (h1:ZA K q1 (PV Tryz.prog ops n Q E Fl t1 l L)) (h2:ZA K q2 (PV Tryz.prog ops n Q E Fl t2 l L)):ZA K (q1∧q2) (PV Tryz.prog ops n Q E Fl (.alt t1 t2) l L):=fun hq=>tvA (h1 hq.1) (h2 hq.2)
theorem zGo {f:FuncId} {fn:Func} {c:Code} {us:List Value} {L:List Asn} {L2:List Asn→List Asn} {C:Value→List Asn→Prop} {n k:Nat} (hf:Tryz.prog.funcs[f]? = some fn)
  (h:∀ G w,Mem w (L2 G)→∀ a,Fr a n (initL 0 us)→c.wp Tryz.prog (bodyPost Tryz.prog fn fun e w'=>∃ v L',e=.returned v∧C v L'∧Mem w' (L'++G)) a w)
  (hb:fn.body=some c:=by exact rfl) (hn:fn.ntmps=n:=by exact rfl) (hle:Nat.ble us.length n=true:=by exact rfl) (hk:n - us.length=k:=by exact rfl) (hL:∀ G,L++G=L2 G:=by(intro G;(try simp only[List.cons_append,List.nil_append]);exact rfl)):Spec f us L C:=fun G w M=>sx_enter hf hb hn hle hk fun a F=>h G w (hL G ▸ M) a F
theorem zGz (K:ZK) {f:FuncId} {fn:Func} {c:Code} {us:List Value} {L:List Asn} {L2:List Asn→List Asn} {C:Value→List Asn→Prop} {n k:Nat} (hf:Tryz.prog.funcs[f]? = some fn)
  (h:∀ G,YK K (ZW n (initL 0 us) (L2 G) (c.wp Tryz.prog (bodyPost Tryz.prog fn fun e w'=>∃ v L',e=.returned v∧C v L'∧Mem w' (L'++G)))))
  (hb:fn.body=some c:=by exact rfl) (hn:fn.ntmps=n:=by exact rfl) (hle:Nat.ble us.length n=true:=by exact rfl) (hk:n - us.length=k:=by exact rfl) (hL:∀ G,L++G=L2 G:=by(intro G;(try simp only[List.cons_append,List.nil_append]);exact rfl)):Spec f us L C:=fun G w M=>sx_enter hf hb hn hle hk fun a F=>ZW.h (h G) a w F (hL G ▸ M)
theorem zGe {f:FuncId} {fn:Func} {c:Code} {us:List Value} {w:World} {R:Ending→World→Prop} {n k:Nat} (hf:Tryz.prog.funcs[f]? = some fn) (h:∀ a,Fr a n (initL 0 us)→c.wp Tryz.prog (bodyPost Tryz.prog fn R) a w)
  (hb:fn.body=some c:=by exact rfl) (hn:fn.ntmps=n:=by exact rfl) (hle:Nat.ble us.length n=true:=by exact rfl) (hk:n - us.length=k:=by exact rfl):Calls Tryz.prog f us.toArray w R:=sx_enter hf hb hn hle hk h
theorem zXz {e:Exit} {fn:Func} {R:Ending→World→Prop} {rs:List ResultVar} {vs:List Value} {v:Value} (he:e=.normal∨e=.ret:=by(first|exact .inl rfl|exact .inr rfl)) (hf:fn.results=rs.toArray:=by exact rfl) (hr:Ress L l rs vs:=by(first|(focus ((repeat (first|exact Ress.nil|(apply Ress.cons)|(apply Res.tmp;exact rfl)|(apply Res.agg;(exact rfl);(exact inferInstance);((focus ((repeat (first|exact Pull.here|apply Pull.there));done)));(exact rfl))|(apply Res.one;(exact rfl);(exact inferInstance);((focus ((repeat (first|exact Pull.here|apply Pull.there));done)));(exact rfl))));done))|fail)) (hv:tupOf vs=v:=by exact rfl) (hR:∀ w,Mem w L→R (.returned v) w:=by(intro w M;exact⟨_,_,rfl,⟨rfl,rfl⟩,M.perms permsA⟩)):YK K (ZW n l L (bodyPost Tryz.prog fn R e)):=ZW.mk fun a w F M=>zE F M (hR w M) he hf hr hv
theorem kp {f:Operand} {xs:Array Operand} {ats:Array TypeId} {k:FuncId} {caps:Array Value} {vs us:List Value} {L1 L2:List Asn} {v:Value} {C:Value→List Asn→Prop} (hs:Spec k us L1 fun u L'=>u=v∧L'=L2) (h:C v L2)
  (ho:o.op=.call {callee:=.value f,args:=xs,argTypes:=ats}:=by exact rfl) (hf:evl l f=some (.func (.func k) #[] caps):=by exact rfl) (hfk:FK k:=by exact inferInstance) (hx:evls l xs.toList=some vs:=by exact rfl) (hu:vs++caps.toList=us:=by exact rfl) (hp:Perms L L1:=by exact permsA):AC o l L n C:=acK hs (fun _ _ ⟨e1,e2⟩=>by rw[e1,e2];exact h) ho hf hfk hx hu hp
theorem kpW {f:Operand} {xs:Array Operand} {ats:Array TypeId} {k:FuncId} {caps:Array Value} {vs us:List Value} {L2:List Asn} {v:Value} {C:Value→List Asn→Prop} (hs:Spec k us L fun u L'=>u=v∧L'=L2) (h:C v L2)
  (ho:o.op=.call {callee:=.value f,args:=xs,argTypes:=ats}:=by exact rfl) (hf:evl l f=some (.func (.func k) #[] caps):=by exact rfl) (hfk:FK k:=by exact inferInstance) (hx:evls l xs.toList=some vs:=by exact rfl) (hu:vs++caps.toList=us:=by exact rfl):AC o l L n C:=acW hs (fun _ _ ⟨e1,e2⟩=>by rw[e1,e2];exact h) ho hf hfk hx hu
def ZC (ops:Array Oper) (p:Prop) (o:Oper) (l:List (Nat × Value)) (L:List Asn) (n:Nat) (C:Value→List Asn→Prop):Prop:=AC o l L n C→p
theorem zcm {C D:Value→List Asn→Prop} (h:AC o l L n C) (hi:∀ v L',C v L'→D v L'):AC o l L n D:=fun F a w hF hM=>(h F a w hF hM).mono fun _ _ ⟨L',h1,h2⟩=>⟨L',hi _ _ h1,h2⟩
theorem zc1 {d:Nat} (hw:Wanted o ops l=some true) (hd:o.dst=some d) (hn:Nat.ble (d+1) n=true):ZC ops (ZW n l L (wpList Tryz.prog ops Q (o::rest))) o l L n (fun v L'=>ZW n ((d,v)::l) L' (wpList Tryz.prog ops Q rest)):=fun h=>⟨fun a w F M=>sv_act F M hw hd hn (zcm h fun _ _ h=>h.h)⟩
theorem zc0 (hw:Wanted o ops l=some true) (hd:o.dst=none):ZC ops (ZW n l L (wpList Tryz.prog ops Q (o::rest))) o l L n (fun v L'=>ZW n l L' (wpList Tryz.prog ops Q rest)):=fun h=>⟨fun a w F M=>sv_act0 F M hw hd (zcm h fun _ _ h w M=>h.h a w F M)⟩
section
variable {E Fl js:List Nat} {S:List (Nat × List Nat)} {σ done:List Nat} {i:Nat} {r:Tr}
theorem zcp {d:Nat} (hi:ops[i]? = some o) (hf:Fl.contains i=false) (he:E.contains i=true) (hw:Wanted o ops l=some true) (hd:o.dst=some d) (hj:lookS S i=js):ZC ops (PW Tryz.prog ops n Q E Fl S (i::σ) done l L) o l L n (fun v L'=>Rvs Tryz.prog ops n js ((d,v)::l) L'∧PW Tryz.prog ops n Q E Fl S σ (i::done) ((d,v)::l) L'):=fun h=>pvC h hi hf he hw hd hj
theorem zcp0 (hi:ops[i]? = some o) (hf:Fl.contains i=false) (he:E.contains i=true) (hw:Wanted o ops l=some true) (hd:o.dst=none) (hj:lookS S i=js):ZC ops (PW Tryz.prog ops n Q E Fl S (i::σ) done l L) o l L n (fun v L'=>Rvs Tryz.prog ops n js l L'∧PW Tryz.prog ops n Q E Fl S σ (i::done) l L'):=fun h=>pvC0 h hi hf he hw hd hj
theorem zct {d:Nat} (hi:ops[i]? = some o) (hf:Fl.contains i=false) (he:E.contains i=true) (hw:Wanted o ops l=some true) (hd:o.dst=some d):ZC ops (PV Tryz.prog ops n Q E Fl (.cons i js r) l L) o l L n (fun v L'=>Rvs Tryz.prog ops n js ((d,v)::l) L'∧PV Tryz.prog ops n Q E Fl r ((d,v)::l) L'):=fun h=>tvC h hi hf he hw hd
theorem zct0 (hi:ops[i]? = some o) (hf:Fl.contains i=false) (he:E.contains i=true) (hw:Wanted o ops l=some true) (hd:o.dst=none):ZC ops (PV Tryz.prog ops n Q E Fl (.cons i js r) l L) o l L n (fun v L'=>Rvs Tryz.prog ops n js l L'∧PV Tryz.prog ops n Q E Fl r l L'):=fun h=>tvC0 h hi hf he hw hd
end
theorem zC {C:Value→List Asn→Prop} (h:AC o l L n fun v L'=>YK K (C v L')) (s:ZC ops p o l L n C:=by(first|((with_reducible apply zc1);(exact rfl);(exact rfl);(exact rfl))|((with_reducible apply zc0);(exact rfl);(exact rfl))|((with_reducible apply zcp)<;>exact rfl)|((with_reducible apply zcp0)<;>exact rfl)|((with_reducible apply zct)<;>exact rfl)|((with_reducible apply zct0)<;>exact rfl))):YK K p:=s h
def ZRv (ops:Array Oper) (p:Prop) (P:Value→Prop) (o:Oper) (l:List (Nat × Value)) (L:List Asn) (n:Nat):Prop:=∀ v,RT o l L n v→P v→p
theorem zv1 {d:Nat} (hw:Wanted o ops l=some true) (hd:o.dst=some d) (hn:Nat.ble (d+1) n=true):ZRv ops (ZW n l L (wpList Tryz.prog ops Q (o::rest))) (fun v=>ZW n ((d,v)::l) L (wpList Tryz.prog ops Q rest)) o l L n:=fun v hr h=>⟨fun a w F M=>sv_run F M hw hd hn hr fun a' F'=>h.h a' w F' M⟩
section
variable {E Fl js:List Nat} {S:List (Nat × List Nat)} {σ done:List Nat} {i:Nat} {r:Tr}
theorem zvp {d:Nat} (hi:ops[i]? = some o) (hf:Fl.contains i=false) (he:E.contains i=false) (hw:Wanted o ops l=some true) (hd:o.dst=some d):ZRv ops (PW Tryz.prog ops n Q E Fl S (i::σ) done l L) (fun v=>PW Tryz.prog ops n Q E Fl S σ (i::done) ((d,v)::l) L) o l L n:=fun v hr h=>pv1 h hi hf he hw hd hr
theorem zvt {d:Nat} (hi:ops[i]? = some o) (hf:Fl.contains i=false) (he:E.contains i=false) (hw:Wanted o ops l=some true) (hd:o.dst=some d):ZRv ops (PV Tryz.prog ops n Q E Fl (.cons i js r) l L) (fun v=>PV Tryz.prog ops n Q E Fl r ((d,v)::l) L) o l L n:=fun v hr h=>tv1 h hi hf he hw hd hr
end
theorem zV {P:Value→Prop} (s:ZRv ops p P o l L n:=by(first|((with_reducible apply zv1)<;>exact rfl)|((with_reducible apply zvp)<;>exact rfl)|((with_reducible apply zvt)<;>exact rfl))) (h:∃ v,RT o l L n v∧YK K (P v)):YK K p:=h.elim fun v h=>s v h.1 h.2
def ZQ (p p1 p2 x y:Prop):Prop:=(p1→x)→(p2→y)→p
theorem zq {c:Operand} {x y:Code} {b:Bool} {p1 p2:Prop} (hc:evl l c=some (.bool b)) (ht:(b=true→p1)∧(b=false→p2)):ZQ (ZW n l L ((Code.cond c x y).wp Tryz.prog Q)) p1 p2 (ZW n l L (x.wp Tryz.prog Q)) (ZW n l L (y.wp Tryz.prog Q)):=fun h1 h2=>⟨fun a w F M=>svB F (fun h=>(h1 h).h a w F M) (fun h=>(h2 h).h a w F M) hc ht⟩
theorem zB {p1 p2 x y:Prop} (h1:p1→YK K x) (h2:p2→YK K y) (s:ZQ p p1 p2 x y:=by((with_reducible apply zq);(exact rfl);(exact tidyA))):YK K p:=s h1 h2
theorem zg {b:Bool} (hg:guardOf o ops l=some (.bool b)):ZQ (ZW n l L (wpList Tryz.prog ops Q (o::rest))) (b=true) (b=false) (ZW n l L (wpList Tryz.prog ops Q (o::rest))) (ZW n l L (wpList Tryz.prog ops Q (o::rest))):=fun h1 h2=>⟨fun a w F M=>sx_guardb F hg (fun h=>(h1 h).h a w F M) (fun h=>(h2 h).h a w F M)⟩
theorem zgw {p1 p2 x y:Prop} (hw:Wanted o ops l=some true) (h:ZQ (ZW n l L (wpList Tryz.prog ops Q (o::rest))) p1 p2 x y):ZQ (ZW n l L (wpList Tryz.prog ops Q (o::rest))) p1 p2 x y:=h
theorem zH {p1 p2 x y:Prop} (h1:p1→YK K x) (h2:p2→YK K y) (s:ZQ p p1 p2 x y:=by((fail_if_success((with_reducible apply zgw);(exact rfl)));(with_reducible apply zg);(exact rfl))):YK K p:=s h1 h2
section
variable {n2 k2:Nat} {l2:List (Nat × Value)} {L2 L3 G:List Asn} {K2:ZK} {C:Value→List Asn→Prop} {fn:Func} {c:Code}
def zU (c:Code) (Q:Exit→Act→World→Prop):Nat→Act→World→Prop
 | 0,_,_=>False
 | k+1,a,w=>c.wp Tryz.prog (Exit.then (zU c Q k) Q) a w
theorem zU_wp {k:Nat} {a:Act} {w:World} (h:zU c Q k a w):(Code.loop c).wp Tryz.prog Q a w :=
 wp_loop_ghost (fun k a w=>zU c Q k a w) id (fun k a w hk=>by
  cases k with
  | zero=>exact hk.elim
  | succ k=>exact wp_mono hk fun e a w h=>by cases e<;>first|exact⟨k,h,Nat.lt_succ_self k⟩|exact h) k h
class IL (n:Nat):Prop where
 t:True
class FN (f:FuncId) (fn:outParam Func) (K:outParam ZK):Prop where
 h:Tryz.prog.funcs[f]? = some fn
 k:FK f
def zku (K:ZK):ZK:=⟨K.s,K.d,⟨4294967295,[],[],.nil⟩::K.t⟩
def isU (K:ZK):Bool:=match K.t with|r::_=>Nat.beq r.id 4294967295|[]=>false
theorem zaU (hK:isU K=true) (h:ZA K q (ZW n l L (zU c Q 40))):ZA K q (ZW n l L ((Code.loop c).wp Tryz.prog Q)):=fun hq=>⟨fun a w F M=>zU_wp ((h hq).h a w F M)⟩
theorem zaV {k:Nat} (h:ZA K q (ZW n l L (c.wp Tryz.prog (Exit.then (zU c Q k) Q)))):ZA K q (ZW n l L (zU c Q (k+1))):=h
theorem ac_appendO {x y:Operand} {t:TypeId} {ats:Array TypeId} (ho:o.op=.call {callee:=.builtin .append,args:=#[x,y],argTypes:=ats}) (hat:ats = #[t,t]) {e:TypeId} {z:Value} {size bytes:Nat} (ht:ST t e z size bytes) {v:Value} (hx:evl l x=some v) {u:Value} (hy:evl l y=some u)
  {m:Nat} {xs:List Value} {L':List Asn} (hp:Pull L (own e size v m xs) L') {k:Nat} {news:List Value} (hg:GS L size u k news) (h1:news.all (·.oneCell')=true) (hb:Nat.ble ((m+k)*(bytes+1)) 1000000=true) (h0:Nat.ble 1 (m+k)=true) {r:List Value} (hr:xs++news=r) {j:Nat} (hj:m+k=j)
  (h:∀ g c,C (.slice (some ⟨g,0,none⟩) j c) (own e size (.slice (some ⟨g,0,none⟩) j c) j r::L')):AC o l L n C:=fun G a w F M=>by
 subst hat;subst hr;subst hj
 have hb1:=Nat.le_of_ble_eq_true hb
 have h01:=Nat.le_of_ble_eq_true h0
 rw[Nat.mul_add] at hb1
 obtain ⟨v',w',hr,hM⟩:=append_run (ty:=o.type) ht (M.pull (hp.app G)) (hg w M.drop_app) (all_one h1) (by simp only[maxLen];omega) (by omega)
 obtain ⟨s,hs,_⟩:=hM.head
 rcases hs.2 with⟨_,h2,_⟩|⟨g,cap,cur,rfl,_⟩
 ·omega
 have:(execOp a.eval o).run Tryz.prog w=.ok (.value (.slice (some ⟨g,0,none⟩) (m+k) cap)) w':=by
  unfold execOp
  rw[ho]
  simp[resolve,invoke,builtin,F.eval hx,F.eval hy,hr]
 rw[this]
 exact⟨_,h g cap,hM⟩
theorem zaO {C:Value→List Asn→Prop} {f:Nat→Nat→Value} {A:Nat→Nat→List Asn} {q:Nat→Nat→Prop} (s:ZC ops p o l L n C) (ha:(∀ g c,C (f g c) (A g c))→AC o l L n C) (h:∀ g c,ZA K (q g c) (C (f g c) (A g c))):ZA K (∀ g c,q g c) p:=fun hq=>s (ha fun g c=>h g c (hq g c))
def YR (K:ZK) (ops:Array Oper) (n:Nat) (l:List (Nat × Value)) (d:Option Nat) (Q:Exit→Act→World→Prop) (rest:List Oper):Ending→World→Prop:=fun e w=>∃ v,e=.returned v∧∀ a,Fr a n (putL d v l)→wpList Tryz.prog ops Q rest a w
def YS (K:ZK) (C:Value→List Asn→Prop) (G:List Asn):Ending→World→Prop:=fun e w=>∃ v L,e=.returned v∧C v L∧Mem w (L++G)
def Spl (G L L2:List Asn):Prop:=L=L2++G
theorem spN:Spl G G []:=rfl
theorem spR {R:List Asn}:Spl G (R++G) R:=rfl
theorem spC {A:Asn} (h:Spl G L L2):Spl G (A::L) (A::L2):=by rw[Spl] at *;rw[h];rfl
theorem call_spec {f:Operand} {xs:Array Operand} {ats:Array TypeId} (ho:o.op=.call {callee:=.value f,args:=xs,argTypes:=ats}) {k:FuncId} {fs caps:Array Value} (hf:evl l f=some (.func (.func k) fs caps)) (hfk:FK k)
  {vs us:List Value} (hx:evls l xs.toList=some vs) (hu:fs.toList++vs++caps.toList=us) {a:Act} (F:Fr a n l) (w:World):(execOp a.eval o).run Tryz.prog w=.ok (.enter k us.toArray) w:=by
 have e1:xs.map a.eval=vs.toArray:=by have:=F.evals hx;apply Array.toList_inj.1;simpa using this
 unfold execOp
 rw[ho]
 rw[Sem.run_bind]
 simp only[resolve,F.eval hf,Deferred.ofValue,Sem.run_pure,Result.andThen_ok,invoke,e1]
 have:fs++vs.toArray++caps=us.toArray:=by rw[← hu];apply Array.toList_inj.1;simp
 rw[this]
 exact @run_callFunc k hfk _ w
theorem zaI {f:Operand} {xs:Array Operand} {ats:Array TypeId} {k:FuncId} {fs caps:Array Value} {vs us:List Value} (ho:o.op=.call {callee:=.value f,args:=xs,argTypes:=ats}) (hf:evl l f=some (.func (.func k) fs caps)) (hfk:FN k fn K2) (hx:evls l xs.toList=some vs) (hu:fs.toList++vs++caps.toList=us) (hw:Wanted o ops l=some true) {t:Nat} (hd:o.dst=some t) (ht:Nat.ble (t+1) n=true)
  (hb:fn.body=some c) (hn:fn.ntmps=n2) (hle:Nat.ble us.length n2=true) (hk:n2 - us.length=k2) (h:ZA K2 q (ZW n2 (initL 0 us) L (c.wp Tryz.prog (bodyPost Tryz.prog fn (YR K ops n l (some t) Q rest))))):ZA K q (ZW n l L (wpList Tryz.prog ops Q (o::rest))):=fun hq=>⟨fun a w F M=>by
 unfold wpList
 rw[if_pos (F.wanted hw)]
 refine .inl ?_
 unfold Oper.wp
 rw[call_spec ho hf hfk.k hx hu F w]
 exact(sx_enter (vs:=us) hfk.h hb hn hle hk fun a2 F2=>(h hq).h a2 w F2 M).mono fun e w' ⟨v,he,hv⟩=>by
  subst he
  rw[hd]
  exact hv _ (F.put t v ht)⟩
theorem zaH {f:Operand} {xs:Array Operand} {ats:Array TypeId} {k:FuncId} {fs caps:Array Value} {vs us:List Value} (ho:o.op=.call {callee:=.value f,args:=xs,argTypes:=ats}) (hf:evl l f=some (.func (.func k) fs caps)) (hfk:FN k fn K2) (hx:evls l xs.toList=some vs) (hu:fs.toList++vs++caps.toList=us) (hw:Wanted o ops l=some true) (hd:o.dst=none)
  (hb:fn.body=some c) (hn:fn.ntmps=n2) (hle:Nat.ble us.length n2=true) (hk:n2 - us.length=k2) (h:ZA K2 q (ZW n2 (initL 0 us) L (c.wp Tryz.prog (bodyPost Tryz.prog fn (YR K ops n l none Q rest))))):ZA K q (ZW n l L (wpList Tryz.prog ops Q (o::rest))):=fun hq=>⟨fun a w F M=>by
 unfold wpList
 rw[if_pos (F.wanted hw)]
 refine .inl ?_
 unfold Oper.wp
 rw[call_spec ho hf hfk.k hx hu F w]
 exact(sx_enter (vs:=us) hfk.h hb hn hle hk fun a2 F2=>(h hq).h a2 w F2 M).mono fun e w' ⟨v,he,hv⟩=>by
  subst he
  rw[hd]
  exact hv _ F⟩
theorem ressA {rs:List ResultVar} {vs:List Value} (h:Ress L l rs vs:=by(first|(focus ((repeat (first|exact Ress.nil|(apply Ress.cons)|(apply Res.tmp;exact rfl)|(apply Res.agg;(exact rfl);(exact inferInstance);((focus ((repeat (first|exact Pull.here|apply Pull.there));done)));(exact rfl))|(apply Res.one;(exact rfl);(exact inferInstance);((focus ((repeat (first|exact Pull.here|apply Pull.there));done)));(exact rfl))));done))|fail)):Ress L l rs vs:=h
theorem exA' {e:Exit} (h:e=.normal∨e=.ret:=by(first|exact .inl rfl|exact .inr rfl)):e=.normal∨e=.ret:=h
theorem tw1 {v:Value}:tupOf [v]=v:=rfl
theorem twN {vs:List Value} {x y:Value}:tupOf (x::y::vs)=.tuple (x::y::vs).toArray:=rfl
theorem tw0:tupOf []=.tuple #[]:=rfl
theorem zaR {e:Exit} {t:Nat} {rs:List ResultVar} {vs:List Value} {v:Value} (he:e=.normal∨e=.ret) (hf:fn.results=rs.toArray) (hr:Ress L2 l2 rs vs) (hv:tupOf vs=v) (h:ZA K q (ZW n ((t,v)::l) L2 (wpList Tryz.prog ops Q rest))):ZA K2 q (ZW n2 l2 L2 (bodyPost Tryz.prog fn (YR K ops n l (some t) Q rest) e)):=fun hq=>⟨fun a w F M=>zE F M ⟨v,rfl,fun a' F'=>(h hq).h a' w F' M⟩ he hf hr hv⟩
theorem zaR0 {e:Exit} {rs:List ResultVar} {vs:List Value} {v:Value} (he:e=.normal∨e=.ret) (hf:fn.results=rs.toArray) (hr:Ress L2 l2 rs vs) (hv:tupOf vs=v) (h:ZA K q (ZW n l L2 (wpList Tryz.prog ops Q rest))):ZA K2 q (ZW n2 l2 L2 (bodyPost Tryz.prog fn (YR K ops n l none Q rest) e)):=fun hq=>⟨fun a w F M=>zE F M ⟨v,rfl,fun a' F'=>(h hq).h a' w F' M⟩ he hf hr hv⟩
theorem zaJ {f:Operand} {xs:Array Operand} {ats:Array TypeId} {k:FuncId} {fs caps:Array Value} {vs us:List Value} {L1:List Asn→List Asn} {q:List Asn→Prop} (s:ZC ops p o l L n C) (ho:o.op=.call {callee:=.value f,args:=xs,argTypes:=ats}) (hf:evl l f=some (.func (.func k) fs caps)) (hfk:FN k fn K2) (hx:evls l xs.toList=some vs) (hu:fs.toList++vs++caps.toList=us)
  (hb:fn.body=some c) (hn:fn.ntmps=n2) (hle:Nat.ble us.length n2=true) (hk:n2 - us.length=k2) (hL:∀ G,L++G=L1 G) (h:∀ G,ZA K2 (q G) (ZW n2 (initL 0 us) (L1 G) (c.wp Tryz.prog (bodyPost Tryz.prog fn (YS K C G))))):ZA K (∀ G,q G) p:=fun hq=>s fun G a w F M=>by
 rw[call_spec ho hf hfk.k hx hu F w]
 exact(sx_enter (vs:=us) hfk.h hb hn hle hk fun a2 F2=>(h G (hq G)).h a2 w F2 (hL G ▸ M)).mono fun e w' ⟨v,L',he,hc,hm⟩=>⟨v,he,L',hc,hm⟩
theorem zaS {e:Exit} {rs:List ResultVar} {vs:List Value} {v:Value} (he:e=.normal∨e=.ret) (hf:fn.results=rs.toArray) (hr:Ress L2 l2 rs vs) (hv:tupOf vs=v) (hs:Spl G L2 L3) (h:ZA K q (C v L3)):ZA K2 q (ZW n2 l2 L2 (bodyPost Tryz.prog fn (YS K C G) e)):=fun hq=>⟨fun a w F M=>zE F M ⟨v,L3,rfl,h hq,by rw[Spl] at hs;rw[← hs];exact M⟩ he hf hr hv⟩
theorem zYD {c:Operand} {x y:Code} {b:Bool} {p1 p2:Prop} (hc:evl l c=some (.bool b)) (ht:(b=true→p1)∧(b=false→p2)) (h:(p2→False)∧ZA K q (ZW n l L (x.wp Tryz.prog Q))∨(p1→False)∧ZA K q (ZW n l L (y.wp Tryz.prog Q))):ZA K q (ZW n l L ((Code.cond c x y).wp Tryz.prog Q)):=by
 cases b
 ·exact h.elim (fun h=>(h.1 (ht.2 rfl)).elim) fun h=>zcF hc h.2
 ·exact h.elim (fun h=>zcT hc h.2) fun h=>(h.1 (ht.1 rfl)).elim
theorem zYw (hw:Wanted o ops l=some true) (h:ZA K q (ZW n l L (wpList Tryz.prog ops Q (o::rest)))):ZA K q (ZW n l L (wpList Tryz.prog ops Q (o::rest))):=h
theorem zYg {b:Bool} (hg:guardOf o ops l=some (.bool b)) (hn:b=false→False) (h:b=true→ZA K q (ZW n l L (wpList Tryz.prog ops Q (o::rest)))):ZA K q (ZW n l L (wpList Tryz.prog ops Q (o::rest))):=h (by cases b;exact(hn rfl).elim;rfl)
theorem zYh {b:Bool} (hg:guardOf o ops l=some (.bool b)) (hn:b=true→False) (h:b=false→ZA K q (ZW n l L (wpList Tryz.prog ops Q (o::rest)))):ZA K q (ZW n l L (wpList Tryz.prog ops Q (o::rest))):=h (by cases b;rfl;exact(hn rfl).elim)
section
variable {E Fl js:List Nat} {S:List (Nat × List Nat)} {σ done:List Nat} {i:Nat} {r:Tr}
theorem zYj (hi:ops[i]? = some o) (hw:Wanted o ops l=some true) (h:ZA K q (PW Tryz.prog ops n Q E Fl S (i::σ) done l L)):ZA K q (PW Tryz.prog ops n Q E Fl S (i::σ) done l L):=h
theorem zYk {b:Bool} (hi:ops[i]? = some o) (hg:guardOf o ops l=some (.bool b)) (hn:b=false→False) (h:b=true→ZA K q (PW Tryz.prog ops n Q E Fl S (i::σ) done l L)):ZA K q (PW Tryz.prog ops n Q E Fl S (i::σ) done l L):=h (by cases b;exact(hn rfl).elim;rfl)
theorem zYl {b:Bool} (hi:ops[i]? = some o) (hg:guardOf o ops l=some (.bool b)) (hn:b=true→False) (h:b=false→ZA K q (PW Tryz.prog ops n Q E Fl S (i::σ) done l L)):ZA K q (PW Tryz.prog ops n Q E Fl S (i::σ) done l L):=h (by cases b;rfl;exact(hn rfl).elim)
theorem zYm {b:Bool} (hi:ops[i]? = some o) (hg:guardOf o ops l=some (.bool b)) (hn:b=false→False) (h:b=true→ZA K q (PV Tryz.prog ops n Q E Fl (.cons i js r) l L)):ZA K q (PV Tryz.prog ops n Q E Fl (.cons i js r) l L):=h (by cases b;exact(hn rfl).elim;rfl)
theorem zYn {b:Bool} (hi:ops[i]? = some o) (hg:guardOf o ops l=some (.bool b)) (hn:b=true→False) (h:b=false→ZA K q (PV Tryz.prog ops n Q E Fl (.cons i js r) l L)):ZA K q (PV Tryz.prog ops n Q E Fl (.cons i js r) l L):=h (by cases b;rfl;exact(hn rfl).elim)
theorem zYo (hi:ops[i]? = some o) (hw:Wanted o ops l=some true) (h:ZA K q (PV Tryz.prog ops n Q E Fl (.cons i js r) l L)):ZA K q (PV Tryz.prog ops n Q E Fl (.cons i js r) l L):=h
end
theorem zY0 {r:Prop} (h:ZA K q p) (h':ZA K r q):ZA K r p:=fun hr=>h (h' hr)
theorem zYt {r:Prop} (h:ZA K2 r p):ZA K r (YK K2 p):=h
theorem zY1 (h:ZA K q p:=by((first|((with_reducible apply za1);(first|exact zo1|exact zo3|exact zoK|exact zoK0))|((with_reducible apply zaB);(exact zob);intro nb)|with_reducible apply zaP|with_reducible apply zaP0|((with_reducible apply zaN);(exact rfl))|with_reducible apply zaM|((with_reducible apply zcT);(exact rfl))|((with_reducible apply zcF);(exact rfl))|with_reducible apply zcR|with_reducible apply zcQ|with_reducible apply zeN|with_reducible apply zcB|with_reducible apply zcE|with_reducible apply zcX|with_reducible apply zcK|with_reducible apply zcL|with_reducible apply zcS|with_reducible apply zbN|((with_reducible apply zbX);(exact rfl))|((with_reducible apply zbY);(exact rfl))|with_reducible apply zeR|with_reducible apply zbR|with_reducible apply zeX|with_reducible apply zgN|with_reducible apply zgR|with_reducible apply zgX|((with_reducible apply zpA);(first|exact zq1|exact zq3|exact zqK|exact zqK0))|((with_reducible apply zpB);(first|exact zb2|exact zbF);intro nb)|((with_reducible apply zpN);(exact rfl))|with_reducible apply zpM|((with_reducible apply zpV);(exact rvsA))|((with_reducible apply zt1);(first|exact zts1|exact zts3|exact ztsK|exact ztsK0))|((with_reducible apply ztB);(first|exact ztb2|exact ztbF);intro nb)|((with_reducible apply ztN);(exact rfl))|with_reducible apply ztM|((with_reducible apply zdP);(exact rfl);(kernel_rfl);((first|(focus ((repeat (first|exact flok_nil|(apply flok_cons;(exact rfl);(exact rfl);(exact inferInstance);(exact rfl);(exact rfl))));done))|fail)))|((with_reducible apply zdT);(exact rfl);(kernel_rfl);((first|(focus ((repeat (first|exact flok_nil|(apply flok_cons;(exact rfl);(exact rfl);(exact inferInstance);(exact rfl);(exact rfl))));done))|fail)))|with_reducible apply ztA);(all_goals exact zaK))):ZA K q p:=h
theorem zYi (h:ZA K q p:=by((first|((with_reducible apply zaI);(exact rfl);(exact rfl);(exact inferInstance);(exact rfl);(exact rfl);(exact rfl);(exact rfl);(exact rfl);(exact rfl);(exact rfl);(exact rfl);(exact rfl))|((with_reducible apply zaH);(exact rfl);(exact rfl);(exact inferInstance);(exact rfl);(exact rfl);(exact rfl);(exact rfl);(exact rfl);(exact rfl);(exact rfl);(exact rfl))|((with_reducible apply zaR);(exact exA');(exact rfl);(exact ressA);(first|exact tw1|exact twN|exact tw0))|((with_reducible apply zaR0);(exact exA');(exact rfl);(exact ressA);(first|exact tw1|exact twN|exact tw0))|((with_reducible apply zaS);(exact exA');(exact rfl);(exact ressA);(first|exact tw1|exact twN|exact tw0);(focus ((repeat (first|exact spN|exact spR|apply spC));done)))|((with_reducible apply zaU);(exact rfl))|with_reducible apply zaV|((with_reducible apply zaJ);(first|((with_reducible apply zcp)<;>exact rfl)|((with_reducible apply zcp0)<;>exact rfl)|((with_reducible apply zct)<;>exact rfl)|((with_reducible apply zct0)<;>exact rfl));(exact rfl);(exact rfl);(exact inferInstance);(exact rfl);(exact rfl);(exact rfl);(exact rfl);(exact rfl);(exact rfl);(intro G;(try simp only[List.cons_append,List.nil_append]);exact rfl);(intro G))|((with_reducible apply zaO);(first|((with_reducible apply zc1);(exact rfl);(exact rfl);(exact rfl))|((with_reducible apply zcp)<;>exact rfl)|((with_reducible apply zct)<;>exact rfl));(intro h;apply ac_appendO;(exact rfl);(exact rfl);(exact inferInstance);(exact rfl);(exact rfl);(exact pullA);(exact gsA);(exact rfl);(exact rfl);(exact rfl);(exact rfl);(exact rfl);(exact h));(intro g c))|fail);(all_goals exact zaK))):ZA K q p:=h
theorem zYb {r s:List Asn→Prop} (h:∀ b,ZA K (r b) (s b)):ZA K (∀ b,r b) (∀ b,s b):=fun hr b=>h b (hr b)
theorem zYd (h:ZA K q p:=by((first|((with_reducible apply zYD);(exact rfl);(exact tidyA);(first|((refine .inl ⟨?_,?_⟩);(intro hc;exact no hc))|((refine .inr ⟨?_,?_⟩);(intro hc;exact no hc))|fail))|((fail_if_success((with_reducible apply zYw);(exact rfl)));(first|((with_reducible apply zYg);(exact rfl);(intro hc;exact no hc))|((with_reducible apply zYh);(exact rfl);(intro hc;exact no hc))|fail);(intro hg;rw[hg]))|((fail_if_success((with_reducible apply zYj);(exact rfl);(exact rfl)));(first|((with_reducible apply zYk);(exact rfl);(exact rfl);(intro hc;exact no hc))|((with_reducible apply zYl);(exact rfl);(exact rfl);(intro hc;exact no hc))|fail);(intro hg;rw[hg]))|((fail_if_success((with_reducible apply zYo);(exact rfl);(exact rfl)));(first|((with_reducible apply zYm);(exact rfl);(exact rfl);(intro hc;exact no hc))|((with_reducible apply zYn);(exact rfl);(exact rfl);(intro hc;exact no hc))|fail);(intro hg;rw[hg]))|fail);(all_goals exact zaK))):ZA K q p:=h
theorem zYa {r s:Nat→Prop} (h:∀ b,ZA K (r b) (s b)):ZA K (∀ b,r b) (∀ b,s b):=fun hr b=>h b (hr b)
theorem zYc {r1 r2 s1 s2:Prop} (h1:ZA K r1 s1) (h2:ZA K r2 s2):ZA K (r1∧r2) (s1∧s2):=fun hr=>⟨h1 hr.1,h2 hr.2⟩
theorem zA0 (hq:q) (h:ZA K q p:=by(((with_reducible apply zY0);(exact zY1));(repeat'(first|with_reducible apply zYt|((with_reducible apply zY0);(exact zY1))|((with_reducible apply zYa);intro nb)|((with_reducible apply zYb);intro G)|with_reducible apply zYc));(all_goals exact zaK))):YK K p:=h hq
theorem zA (hq:q) (h:ZA K q p:=by((first|((with_reducible apply zY0);(exact zY1))|((with_reducible apply zY0);(exact zYi))|((with_reducible apply zY0);(exact zYd)));(repeat'(first|with_reducible apply zYt|((with_reducible apply zY0);(exact zY1))|((with_reducible apply zY0);(exact zYi))|((with_reducible apply zY0);(exact zYd))|((with_reducible apply zYa);intro nb)|((with_reducible apply zYb);intro G)|with_reducible apply zYc));(all_goals exact zaK))):YK K p:=h hq
theorem zA1 (hq:q) (h:ZA K q p:=by((with_reducible apply zY0);(exact zY1);(repeat'(first|with_reducible apply zYt|((with_reducible apply zYa);intro nb)|((with_reducible apply zYb);intro G)|with_reducible apply zYc));(all_goals exact zaK))):YK K p:=h hq
theorem zst {c:Operand} {v x y z:Code} (h:ZA K q (ZW n l L ((Code.seq (Code.seq v (Code.cond c x y)) z).wp Tryz.prog Q))):ZA K q (ZW n l L ((Code.seq (Code.seq v (Code.cond c x y)) z).wp Tryz.prog Q)):=h
theorem zJ1 (hq:q) (h:ZA K q p:=by((fail_if_success(with_reducible apply zst));((with_reducible apply zY0);(exact zY1));(repeat'(first|with_reducible apply zYt|((with_reducible apply zYa);intro nb)|((with_reducible apply zYb);intro G)|with_reducible apply zYc));(all_goals exact zaK))):YK K p:=h hq
end
end
end
end Go.Proofs.YtjbfcacmdahnhaaGreat
